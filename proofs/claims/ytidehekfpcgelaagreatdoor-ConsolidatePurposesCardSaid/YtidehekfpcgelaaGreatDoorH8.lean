/- Functions walked: what each of them answers, for the law of purposes: part 8. Conditions: those that each theorem names. -/
import Derived.Test.YtidehekfpcgelaaGreatDoorH7
namespace Go.Proofs.YtidehekfpcgelaaGreatDoor
open Go Go.Ev
noncomputable def bV (w:PWord):AV:= .agg [iV w.act,iV w.item,iV w.at_]
theorem mw (w:PWord):(bV w).top=0:=rfl
theorem Cu : ∀ {l:List TUnit} {k:TUnit},k∈l→(eX k).length≤(fY l).length
  | x::r,k,h=>by
    rw [dU,lA]
    rcases eP.1 h with rfl | h
    · omega
    · have:=Cu h;omega
theorem RU {u k:TUnit} (h:k∈u.kids):(eX k).length≤(eX u).length:=by
  have:=Cu h
  rw [xA u,lA];omega
theorem PJ : ∀ (u:TUnit),nU u≤2 ^ 20→(eX u).length≤2 ^ 20→kP 22 [eU u] (.ls ((eX u).map bV)):=by
  refine TUnit.ind fun u ih hu hn=>?_
  have hq:=xA u
  have hkl:=bK u
  have hwl:u.head.length+u.words.length≤2 ^ 20:=by
    have z:=congrArg List.length hq
    unfold jL at z
    rw [lA,lA] at z;omega
  have ihk : ∀ k,k∈u.kids→kP 22 [eU k] (.ls ((eX k).map bV)):=fun k hk=>ih k hk (bH (pA (gw hk)) hu) (bH (RU hk) hn)
  have rr0 b' (h:((eX u).map bV)=b':=by first | rfl | (rw [← hj2];rfl) | (rw [← hj2.2,ma,dB]) | (rw [← hj3];rfl) | (rw [← hj3.2,ma,dB]) | (rw [← hj4];rfl) | (rw [← hj4.2,ma,dB]) | (rw [← hj5];rfl) | (rw [← hj5.2,ma,dB]) | (simp_all;done)):=h;exact bB Tryz.func22<|Mg 3<|jG Nat Nat (List PWord) aQ u.head [1,3,4] (fun a _=>([aR 0 0 0 0,aa,nV a],[aZ 8 false 0 [ak [iV u.act,iV u.item,iV u.n,iV u.kind,aj u.label,aX<|u.head.map aQ,aX<|u.words.map aQ,aX<|u.kids.map aV]]])) (fun a _ b c d=>([aR 0 0 0 0,aH 1 b 0 c none,nV a],[aZ 8 false 0 [ak [iV u.act,iV u.item,iV u.n,iV u.kind,aj u.label,aX<|u.head.map aQ,aX<|u.words.map aQ,aX<|u.kids.map aV]],aZ 3 true b<|d.map bV])) (fun a=>a++(u.words++fY u.kids)=eX u) (fun a _ b c=>b=c.length∧c++(a++(u.words++fY u.kids))=eX u) (by (rw [hq];simp [jL];done)) (fun _ _ _ _ _ a b=>Kl 3 10 (ln aQ u.head)<|Kh 0 a<|Mg 0<|jG Nat Nat (List PWord) aQ u.words [1,3,5] (fun a _=>([aR 0 0 0 0,aa,nV a],[aZ 8 false 0 [ak [iV u.act,iV u.item,iV u.n,iV u.kind,aj u.label,aX<|u.head.map aQ,aX<|u.words.map aQ,aX<|u.kids.map aV]]])) (fun a _ b c d=>([aR 0 0 0 0,aH 1 b 0 c none,nV a],[aZ 8 false 0 [ak [iV u.act,iV u.item,iV u.n,iV u.kind,aj u.label,aX<|u.head.map aQ,aX<|u.words.map aQ,aX<|u.kids.map aV]],aZ 3 true b<|d.map bV])) (fun a=>a++fY u.kids=eX u) (fun a _ b c=>b=c.length∧c++(a++fY u.kids)=eX u) (by (simpa using b)) (fun _ _ _ _ _ a b=>Kl 3 26 (ln aQ u.words)<|Kh 0 a<|Mg 0<|jG Nat Nat (List PWord) aV u.kids [1,3,6] (fun a _=>([aR 0 0 0 0,aa,nV a],[aZ 8 false 0 [ak [iV u.act,iV u.item,iV u.n,iV u.kind,aj u.label,aX<|u.head.map aQ,aX<|u.words.map aQ,aX<|u.kids.map aV]]])) (fun a _ b c d=>([aR 0 0 0 0,aH 1 b 0 c none,nV a],[aZ 8 false 0 [ak [iV u.act,iV u.item,iV u.n,iV u.kind,aj u.label,aX<|u.head.map aQ,aX<|u.words.map aQ,aX<|u.kids.map aV]],aZ 3 true b<|d.map bV])) (fun a=>fY a=eX u) (fun a _ b c=>b=c.length∧c++fY a=eX u) (by (simpa using b)) (fun _ _ _ _ _ a hj2=>Kl 3 42 (ln aV u.kids)<|Kh 0 a<|Kf 1 (Le.lsn<|rr0 []:Le _ (aa))) (fun a _ b c d e f g i j _ l _=>have l:=(l).trans<|congrArg some<|aA d;have hj2:=cW (J:=fun a _=>fY a=eX u) (a:=()) i c;Kl 3 42 (ln aV u.kids)<|Kt 0 j<|Kx 3 l<|Kp 0 (ihk d<|by exact ar b i)<|Mc (eX d) (fun b=>Ml 52 (dA<|by rw [b];rfl:Le (aX []) (aX ((eX d).map bV)))<|Kl 3 45 (dj a)<|Kf 0<|f<|by (rw [← hj2,dU];simp only [*,pI];done)) fun b c f=>Ml 52 (dA<|by rw [f]:Le (aX ((b::c).map bV)) (aX ((eX d).map bV)))<|M2 .apl (et (by exact lL _ _:List.map bV (b::c)≠ [])<|fM 3 bV (b::c) fun _=>rfl) (by (have z:=congrArg List.length hj2;rw [dU,lA] at z;refine ao (m:=2 ^ 20) ?_ (by decide) (by decide);simp only [lM, *] at *;omega):small ((b::c).map bV).length 24=true)<|Kl 2 45 (dj a)<|Kf 0<|g 0 ((b::c).map bV).length (b::c)<|by exact ⟨by simp,by rw [← hj2,dU];simp only [*]⟩) (fun _ _ a b c _ _ _ d hj2=>Kl 3 42 (ln aV u.kids)<|Kh 0 d<|Mg 1<|M2 (.fsl 0 [] 2<|c.map bV) ti (cp (aU a) (tA bV c b (oA:(c).length=b))<|aW mw c)<|Ml 2 (fx (c.map bV) false<|aW mw c)<|Mf<|b9<|rr0<|c.map bV) fun a _ b c d e f g i _ j l n _ o _=>have o:=(o).trans<|congrArg some<|aA g;have hj2:=cW (J:=fun a b=>b.2.1=b.2.2.length∧b.2.2++fY a=eX u) (a:=(b,c,d)) l f;Kl 3 42 (ln aV u.kids)<|Kt 0 n<|Kx 3 o<|Kp 0 (ihk g<|by exact ar e l)<|Mc (eX g) (fun e=>Ml 52 (dA<|by rw [e];rfl:Le (aX []) (aX ((eX g).map bV)))<|Kl 3 45 (dj a)<|Kf 0<|j b c d<|by exact ⟨hj2.1,by rw [← hj2.2,dU];simp only [*,pI]⟩) fun e f l=>Ml 52 (dA<|by rw [l]:Le (aX ((e::f).map bV)) (aX ((eX g).map bV)))<|M2 .apl (et (by exact lL _ _:List.map bV (e::f)≠ [])<|fM 3 bV (e::f) fun _=>rfl) (cp (aU b) (by (simp_all;done):c=(d.map bV).length) (by (have z:=congrArg List.length hj2.2;have z2:=hj2.1;rw [dU,lA,lA] at z;refine ao (m:=2 ^ 20) ?_ (by decide) (by decide);simp only [lM, *] at *;omega):small (c+((e::f).map bV).length) 24=true))<|M1 (.obj 1<|aZ 3 true (b+1)<|(d++e::f).map bV) (congrArg (aZ 3 true<|b+1)<|cC (f:=bV) (l:=d) (ws:=e::f))<|Kl 2 45 (dj a)<|Kf 0<|j (b+1) (c+((e::f).map bV).length) (d++e::f)<|by exact ⟨by (have:=hj2.1;simp only [lA,lM,lC] at *;omega),by rw [← hj2.2,dU,nJ];simp only [*]⟩) (fun a _ _ _ b c _ d _ e _ f g=>Kl 3 26 (ln aQ u.words)<|Kt 0 e<|Kx 3 f<|Kl 6 29 (dj a)<|Kf 0<|d 0 1 [b]<|by (simpa using g)) (fun _ _ a b c _ _ _ d e=>Kl 3 26 (ln aQ u.words)<|Kh 0 d<|Mg 0<|Nf aV u.kids a b c [1,3,6] (fun a _ b c d=>([aR 0 0 0 0,aH 1 b 0 c none,nV a],[aZ 8 false 0 [ak [iV u.act,iV u.item,iV u.n,iV u.kind,aj u.label,aX<|u.head.map aQ,aX<|u.words.map aQ,aX<|u.kids.map aV]],aZ 3 true b<|d.map bV])) (fun a _ b c=>b=c.length∧c++fY a=eX u) (by (simpa using e)) (fun _ _ a b c _ _ _ d hj2=>Kl 3 42 (ln aV u.kids)<|Kh 0 d<|Mg 1<|M2 (.fsl 0 [] 2<|c.map bV) ti (cp (aU a) (tA bV c b (oA:(c).length=b))<|aW mw c)<|Ml 2 (fx (c.map bV) false<|aW mw c)<|Mf<|b9<|rr0<|c.map bV) fun a _ b c d e f g i j l n _ o _=>have o:=(o).trans<|congrArg some<|aA g;have hj2:=cW (J:=fun a b=>b.2.1=b.2.2.length∧b.2.2++fY a=eX u) (a:=(b,c,d)) l f;Kl 3 42 (ln aV u.kids)<|Kt 0 n<|Kx 3 o<|Kp 0 (ihk g<|by exact ar e l)<|Mc (eX g) (fun e=>Ml 52 (dA<|by rw [e];rfl:Le (aX []) (aX ((eX g).map bV)))<|Kl 3 45 (dj a)<|Kf 0<|j b c d<|by exact ⟨hj2.1,by rw [← hj2.2,dU];simp only [*,pI]⟩) fun e f l=>Ml 52 (dA<|by rw [l]:Le (aX ((e::f).map bV)) (aX ((eX g).map bV)))<|M2 .apl (et (by exact lL _ _:List.map bV (e::f)≠ [])<|fM 3 bV (e::f) fun _=>rfl) (cp (aU b) (by (simp_all;done):c=(d.map bV).length) (by (have z:=congrArg List.length hj2.2;have z2:=hj2.1;rw [dU,lA,lA] at z;refine ao (m:=2 ^ 20) ?_ (by decide) (by decide);simp only [lM, *] at *;omega):small (c+((e::f).map bV).length) 24=true))<|M1 (.obj 1<|aZ 3 true (b+1)<|(d++e::f).map bV) (congrArg (aZ 3 true<|b+1)<|cC (f:=bV) (l:=d) (ws:=e::f))<|Kl 2 45 (dj a)<|Kf 0<|j (b+1) (c+((e::f).map bV).length) (d++e::f)<|by exact ⟨by (have:=hj2.1;simp only [lA,lM,lC] at *;omega),by rw [← hj2.2,dU,nJ];simp only [*]⟩) fun a _ b c d _ _ e f _ g _ i _ j l=>Kl 3 26 (ln aQ u.words)<|Kt 0 i<|Kx 3 j<|K1 2 .app (cp (aU b) (by (simp_all;done):c=(d.map bV).length) (by (have z:=congrArg List.length l.2;have z2:=l.1;simp only [lA,lC] at z;refine ao (m:=2 ^ 20) ?_ (by decide) (by decide);omega):small (c+1) 24=true))<|M1 (.obj 1<|aZ 3 true (b+1)<|(d++ [e]).map bV) (congrArg (aZ 3 true<|b+1)<|cC (f:=bV) (l:=d) (ws:=[e]))<|Kl 2 29 (dj a)<|Kf 0<|g (b+1) (c+1) (d++ [e])<|by (simpa using l)) (fun a _ _ _ b c _ d _ e _ f g=>Kl 3 10 (ln aQ u.head)<|Kt 0 e<|Kx 3 f<|Kl 6 13 (dj a)<|Kf 0<|d 0 1 [b]<|by (simpa using g)) (fun _ _ a b c _ _ _ d e=>Kl 3 10 (ln aQ u.head)<|Kh 0 d<|Mg 0<|Nf aQ u.words a b c [1,3,5] (fun a _ b c d=>([aR 0 0 0 0,aH 1 b 0 c none,nV a],[aZ 8 false 0 [ak [iV u.act,iV u.item,iV u.n,iV u.kind,aj u.label,aX<|u.head.map aQ,aX<|u.words.map aQ,aX<|u.kids.map aV]],aZ 3 true b<|d.map bV])) (fun a _ b c=>b=c.length∧c++(a++fY u.kids)=eX u) (by (simpa using e)) (fun _ _ a b c _ _ _ d e=>Kl 3 26 (ln aQ u.words)<|Kh 0 d<|Mg 0<|Nf aV u.kids a b c [1,3,6] (fun a _ b c d=>([aR 0 0 0 0,aH 1 b 0 c none,nV a],[aZ 8 false 0 [ak [iV u.act,iV u.item,iV u.n,iV u.kind,aj u.label,aX<|u.head.map aQ,aX<|u.words.map aQ,aX<|u.kids.map aV]],aZ 3 true b<|d.map bV])) (fun a _ b c=>b=c.length∧c++fY a=eX u) (by (simpa using e)) (fun _ _ a b c _ _ _ d hj2=>Kl 3 42 (ln aV u.kids)<|Kh 0 d<|Mg 1<|M2 (.fsl 0 [] 2<|c.map bV) ti (cp (aU a) (tA bV c b (oA:(c).length=b))<|aW mw c)<|Ml 2 (fx (c.map bV) false<|aW mw c)<|Mf<|b9<|rr0<|c.map bV) fun a _ b c d e f g i j l n _ o _=>have o:=(o).trans<|congrArg some<|aA g;have hj2:=cW (J:=fun a b=>b.2.1=b.2.2.length∧b.2.2++fY a=eX u) (a:=(b,c,d)) l f;Kl 3 42 (ln aV u.kids)<|Kt 0 n<|Kx 3 o<|Kp 0 (ihk g<|by exact ar e l)<|Mc (eX g) (fun e=>Ml 52 (dA<|by rw [e];rfl:Le (aX []) (aX ((eX g).map bV)))<|Kl 3 45 (dj a)<|Kf 0<|j b c d<|by exact ⟨hj2.1,by rw [← hj2.2,dU];simp only [*,pI]⟩) fun e f l=>Ml 52 (dA<|by rw [l]:Le (aX ((e::f).map bV)) (aX ((eX g).map bV)))<|M2 .apl (et (by exact lL _ _:List.map bV (e::f)≠ [])<|fM 3 bV (e::f) fun _=>rfl) (cp (aU b) (by (simp_all;done):c=(d.map bV).length) (by (have z:=congrArg List.length hj2.2;have z2:=hj2.1;rw [dU,lA,lA] at z;refine ao (m:=2 ^ 20) ?_ (by decide) (by decide);simp only [lM, *] at *;omega):small (c+((e::f).map bV).length) 24=true))<|M1 (.obj 1<|aZ 3 true (b+1)<|(d++e::f).map bV) (congrArg (aZ 3 true<|b+1)<|cC (f:=bV) (l:=d) (ws:=e::f))<|Kl 2 45 (dj a)<|Kf 0<|j (b+1) (c+((e::f).map bV).length) (d++e::f)<|by exact ⟨by (have:=hj2.1;simp only [lA,lM,lC] at *;omega),by rw [← hj2.2,dU,nJ];simp only [*]⟩) fun a _ b c d _ _ e f g _ i _ j l=>Kl 3 26 (ln aQ u.words)<|Kt 0 i<|Kx 3 j<|K1 2 .app (cp (aU b) (by (simp_all;done):c=(d.map bV).length) (by (have z:=congrArg List.length l.2;have z2:=l.1;simp only [lA,lC] at z;refine ao (m:=2 ^ 20) ?_ (by decide) (by decide);omega):small (c+1) 24=true))<|M1 (.obj 1<|aZ 3 true (b+1)<|(d++ [e]).map bV) (congrArg (aZ 3 true<|b+1)<|cC (f:=bV) (l:=d) (ws:=[e]))<|Kl 2 29 (dj a)<|Kf 0<|g (b+1) (c+1) (d++ [e])<|by (simpa using l)) fun a _ b c d _ _ e f _ g _ i _ j l=>Kl 3 10 (ln aQ u.head)<|Kt 0 i<|Kx 3 j<|K1 2 .app (cp (aU b) (by (simp_all;done):c=(d.map bV).length) (by (have z:=congrArg List.length l.2;have z2:=l.1;simp only [lA,lC] at z;refine ao (m:=2 ^ 20) ?_ (by decide) (by decide);omega):small (c+1) 24=true))<|M1 (.obj 1<|aZ 3 true (b+1)<|(d++ [e]).map bV) (congrArg (aZ 3 true<|b+1)<|cC (f:=bV) (l:=d) (ws:=[e]))<|Kl 2 13 (dj a)<|Kf 0<|g (b+1) (c+1) (d++ [e])<|by (simpa using l)
noncomputable def UF (d:PDeed):Bool:=ax (dg d.it.for_ [])
theorem UP (day:Int) (p:aP) (gs:List PGaz) (haw:kP 9 [] (.bool true)) (hw:kP 10 [.ls (gs.map aM), .str p] (.bool false)):kP 7 [iV day, .str p, .ls (gs.map aM)] (.bool true):=by
  exact bB Tryz.func7<|Kp 0 haw<|Kp 3 hw<|Kf 2<|bg<|eH true
theorem UR (day:Int) (p:aP) (gs:List PGaz) (u:TUnit) (X:List PDeed) (W:List PWord) (I:List PId) (haw:kP 9 [] (.bool true)) (hw:kP 10 [.ls (gs.map aM), .str p] (.bool true))
    (b0:kP 12 [iV day, .str [], .ls (gs.map aM)] (eU u))
    (ho:kP 20 [iV day, .str p, .ls (gs.map aM)] (.ls (X.map aY)))
    (hB:X.any UF=false→kP 12 [iV day, .str p, .ls (gs.map aM)] (eU u))
    (hs:kP 11 [eU u,eU u] (.bool true))
    (hm:kP 22 [eU u] (.ls (W.map bV)))
    (ha:kP 19 [eU u] (.ls (I.map aJ)))
    (hX:X.length<2 ^ 30) (hl:W.length<2 ^ 30) (hi:I.length<2 ^ 30)
    (hW : ∀ d,d∈X→dg d.it.for_ []=false→∀ w,w∈W→ab w.act d.act=true→ab w.item d.item=false)
    (hI : ∀ d,d∈X→dg d.it.for_ []=false→∀ k,0<k→k<I.length→ab (gD I k).a d.act=true→ab (gD I k).i d.item=false) :
    kP 7 [iV day, .str p, .ls (gs.map aM)] (.bool true):=by
  have rr0 b' (h:(true)=b':=by first | rfl | exact absurd ((hW _ (ar zD1 hr1) h3 _ (ar zD2 hr2) ‹_›).symm.trans ‹_›) (by decide) | exact absurd ((hI _ (ar zD1 hr1) h3 za3 hx3 (Int.ofNat_lt.1 gh6) h7).symm.trans h8) (by decide) | exact absurd ((hW _ (ar zD1 hr1) h12 _ (ar zD2 hr2) ‹_›).symm.trans ‹_›) (by decide) | exact absurd ((hI _ (ar zD1 hr1) h12 za3 hx3 (Int.ofNat_lt.1 gh15) h16).symm.trans h17) (by decide)):=h;exact bB Tryz.func7<|Kp 0 haw<|Kp 3 hw<|Kp 3 b0<|Kp 4 ho<|Mg 2<|Nv aY X false [0,1,2,7,8,9,10] (fun a _ b=>([iV day,aj p,aX<|gs.map aM,aR 0 0 0 0,aX<|X.map aY,eH b,nV a],[aZ 8 false 0 [ak [iV u.act,iV u.item,iV u.n,iV u.kind,aj u.label,aX<|u.head.map aQ,aX<|u.words.map aQ,aX<|u.kids.map aV]]])) (fun a b=>X.any UF=(b || a.any UF)) (by rfl) (fun _ _ a _ _ _ b _=>Kl 2 31 (ln aY X)<|Kh 0 b<|Kn 2 a (fun a=>Kt 0 (bT a)<|Kt 0 (bT a)<|Kt 0 (bT a)<|Mp (hB<|by (simp_all;done))<|Mt (bT a)<|Kt 0 (bT a)<|Mp hs<|Mt (bT a)<|Ku 0 (bT a)<|Kp 1 hm<|Kp 1 ha<|K1 1 (.frz 0 [8,11,12,13]) ti<|rf aY X [8,11,12,13] (fun a _=>([aX<|X.map aY,aX<|W.map bV,aX<|I.map aJ,nV a],[])) (fun _=>True) (by (trivial)) (fun _ _ zD1 _ hr1 a _=>Kl 2 62 (ln aY X)<|Kh 0 a<|Kf 0<|bg<|eH true) fun a _ zD1 _ b _ c hr1 e _ f _=>Kl 2 62 (ln aY X)<|Kt 0 e<|Kx 1 f<|Kb 3 (dg b.it.for_ (ByteArray.mk #[]).data.toList) (fun h3=>Kl 1 65 (iK a)<|Kf 0<|c<|by trivial) fun h3=>Mg 0<|rf bV W [8,11,12,13,14] (fun b _=>([aX<|X.map aY,aX<|W.map bV,aX<|I.map aJ,nV a,nV b],[])) (fun _=>True) (by (trivial)) (fun _ _ zD2 _ hr2 e _=>Kl 2 75 (ln bV W)<|Kh 0 e<|Mg 0<|Yv (1:Nat) [8,11,12,13,15] (fun b=>([aX<|X.map aY,aX<|W.map bV,aX<|I.map aJ,nV a,nV b],[])) (fun a=>(1:Nat)≤a) (fun a=>I.length - a) (by exact ah _) fun za3 hx3 e=>have hx3:=hx3;Kl 2 105 (ln aJ I)<|Ka 0 (Int.ofNat za3) (Int.ofNat I.length) (fun _ gh6=>Kx 1 (aT aJ (by (simp only [oN,lM,lS] at *;omega):za3<(I).length))<|Kx 3 f<|Kj 3 (gD I za3).a b.act (fun h7 _=>Kt 0 h7<|Kt 0 h7<|Mx (aT aJ (by (simp only [oN,lM,lS] at *;omega):za3<(I).length))<|Mt h7<|Kt 0 h7<|Kt 0 h7<|Kt 0 h7<|Kt 0 h7<|Mx f<|Mt h7<|Kt 0 h7<|Kt 0 h7<|Ku 0 h7<|Mb (ab (gD I za3).i b.item) (fun h8=>have :=gn h8;Ky 0<|rr0 false) fun h8=>have :=tP h8;Kl 1 108 (iK za3)<|Kf 0<|e (za3+1) (by (omega))<|by (simp only [oN] at *;omega)) fun h7 _=>Mh h7<|Mh h7<|Mh h7<|Mh h7<|Mh h7<|Mh h7<|Mh h7<|Mh h7<|Mh h7<|Mh h7<|My h7<|Kl 2 108 (iK za3)<|Kf 0<|e (za3+1) (by (omega))<|by (simp only [oN] at *;omega)) fun _ gh6=>Kl 1 65 (iK a)<|Kf 0<|c<|by trivial) fun a _ zD2 _ c _ e hr2 g _ i _=>Kl 2 75 (ln bV W)<|Kt 0 g<|Kx 1 i<|Kx 3 f<|Kj 3 c.act b.act (fun g _=>Kt 0 g<|Kt 0 g<|Mx i<|Mt g<|Kt 0 g<|Kt 0 g<|Kt 0 g<|Kt 0 g<|Mx f<|Mt g<|Kt 0 g<|Kt 0 g<|Ku 0 g<|Mb (ab c.item b.item) (fun a=>have :=gn a;Ky 0<|rr0 false) fun b=>have :=tP b;Kl 1 78 (iK a)<|Kf 0<|e<|by trivial) fun b _=>Mh b<|Mh b<|Mh b<|Mh b<|Mh b<|Mh b<|Mh b<|Mh b<|Mh b<|Mh b<|My b<|Kl 2 78 (iK a)<|Kf 0<|e<|by trivial) fun a=>Mh (bN a)<|Mh (bN a)<|Mh (bN a)<|Mh (bN a)<|Mh (bN a)<|Mh (bN a)<|My (bN a)<|Kp 1 hm<|Kp 1 ha<|K1 1 (.frz 0 [8,11,12,13]) ti<|rf aY X [8,11,12,13] (fun a _=>([aX<|X.map aY,aX<|W.map bV,aX<|I.map aJ,nV a],[])) (fun _=>True) (by (trivial)) (fun _ _ zD1 _ hr1 a _=>Kl 2 62 (ln aY X)<|Kh 0 a<|Kf 0<|bg<|eH true) fun a _ zD1 _ b _ c hr1 e _ f _=>Kl 2 62 (ln aY X)<|Kt 0 e<|Kx 1 f<|Kb 3 (dg b.it.for_ (ByteArray.mk #[]).data.toList) (fun h12=>Kl 1 65 (iK a)<|Kf 0<|c<|by trivial) fun h12=>Mg 0<|rf bV W [8,11,12,13,14] (fun b _=>([aX<|X.map aY,aX<|W.map bV,aX<|I.map aJ,nV a,nV b],[])) (fun _=>True) (by (trivial)) (fun _ _ zD2 _ hr2 e _=>Kl 2 75 (ln bV W)<|Kh 0 e<|Mg 0<|Yv (1:Nat) [8,11,12,13,15] (fun b=>([aX<|X.map aY,aX<|W.map bV,aX<|I.map aJ,nV a,nV b],[])) (fun a=>(1:Nat)≤a) (fun a=>I.length - a) (by exact ah _) fun za3 hx3 e=>have hx3:=hx3;Kl 2 105 (ln aJ I)<|Ka 0 (Int.ofNat za3) (Int.ofNat I.length) (fun _ gh15=>Kx 1 (aT aJ (by (simp only [oN,lM,lS] at *;omega):za3<(I).length))<|Kx 3 f<|Kj 3 (gD I za3).a b.act (fun h16 _=>Kt 0 h16<|Kt 0 h16<|Mx (aT aJ (by (simp only [oN,lM,lS] at *;omega):za3<(I).length))<|Mt h16<|Kt 0 h16<|Kt 0 h16<|Kt 0 h16<|Kt 0 h16<|Mx f<|Mt h16<|Kt 0 h16<|Kt 0 h16<|Ku 0 h16<|Mb (ab (gD I za3).i b.item) (fun h17=>have :=gn h17;Ky 0<|rr0 false) fun h17=>have :=tP h17;Kl 1 108 (iK za3)<|Kf 0<|e (za3+1) (by (omega))<|by (simp only [oN] at *;omega)) fun h16 _=>Mh h16<|Mh h16<|Mh h16<|Mh h16<|Mh h16<|Mh h16<|Mh h16<|Mh h16<|Mh h16<|Mh h16<|My h16<|Kl 2 108 (iK za3)<|Kf 0<|e (za3+1) (by (omega))<|by (simp only [oN] at *;omega)) fun _ gh15=>Kl 1 65 (iK a)<|Kf 0<|c<|by trivial) fun a _ zD2 _ c _ e hr2 g _ i _=>Kl 2 75 (ln bV W)<|Kt 0 g<|Kx 1 i<|Kx 3 f<|Kj 3 c.act b.act (fun g _=>Kt 0 g<|Kt 0 g<|Mx i<|Mt g<|Kt 0 g<|Kt 0 g<|Kt 0 g<|Kt 0 g<|Mx f<|Mt g<|Kt 0 g<|Kt 0 g<|Ku 0 g<|Mb (ab c.item b.item) (fun a=>have :=gn a;Ky 0<|rr0 false) fun b=>have :=tP b;Kl 1 78 (iK a)<|Kf 0<|e<|by trivial) fun b _=>Mh b<|Mh b<|Mh b<|Mh b<|Mh b<|Mh b<|Mh b<|Mh b<|Mh b<|Mh b<|My b<|Kl 2 78 (iK a)<|Kf 0<|e<|by trivial) fun a _ b _ _ c e f _ g _ i _=>Kl 2 31 (ln aY X)<|Kt 0 g<|Kb 1 b (fun b=>Mt b<|Mt b<|Mt b<|Mt b<|Mt b<|Mt b<|MV b<|Kl 2 34 (iK a)<|Kf 0<|f true<|by (simp_all [UF];done)) fun b=>Kh 0 b<|Kh 0 b<|Mx i<|Mh b<|Kh 0 b<|Kh 0 b<|Kh 0 b<|Kw 0 b<|Kl 2 34 (iK a)<|Kf 0<|f (ax<|dg c.it.for_ (ByteArray.mk #[]).data.toList)<|by (simp_all [UF];done)
def I0 (u:TUnit) (x0:Nat × List TUnit × Unit):Prop:=(u.kids).drop x0.1=x0.2.1∧ae u::bq u.kids=ae u::bq x0.2.1
noncomputable def Ac (u:TUnit) (x0:Nat × List TUnit × Unit):List AV × List AObj:=([AV.ptr 0 0 0 0,AV.ps [AV.agg [iV (ae u).a,iV (ae u).i,iV (ae u).n]] true,nV x0.1], [AObj.row 8 false 0 [AV.agg [iV u.act,iV u.item,iV u.n,iV u.kind,AV.str u.label,AV.ls (u.head.map aQ),AV.ls (u.words.map aQ),AV.ls (u.kids.map aV)]]])
def IR (u:TUnit) (x0:Nat × List TUnit × Nat × Nat × List PId):Prop:=(u.kids).drop x0.1=x0.2.1∧x0.2.2.2.1=x0.2.2.2.2.length∧ae u::bq u.kids=x0.2.2.2.2++bq x0.2.1
noncomputable def IP (u:TUnit) (x0:Nat × List TUnit × Nat × Nat × List PId):List AV × List AObj:=([AV.ptr 0 0 0 0,AV.slice 1 x0.2.2.1 0 x0.2.2.2.1 none,nV x0.1], [AObj.row 8 false 0 [AV.agg [iV u.act,iV u.item,iV u.n,iV u.kind,AV.str u.label,AV.ls (u.head.map aQ),AV.ls (u.words.map aQ),AV.ls (u.kids.map aV)]],AObj.row 3 true x0.2.2.1 (x0.2.2.2.2.map aJ)])
theorem T1 : ∀ (u:TUnit),nU u≤2 ^ 20→kP 19 [eU u] (.ls ((ae u::bq u.kids).map aJ)):=by
  refine TUnit.ind fun u ih hn=>?_
  have hkl:=bK u
  have ihk : ∀ k,k∈u.kids→kP 19 [eU k] (.ls ((ae k::bq k.kids).map aJ)):=fun k hk=>ih k hk (bH (pA (gw hk)) hn)
  have hlen:(ae u::bq u.kids).length≤2 ^ 20:=by rw [← gz,← je];omega
  have rr0 : ∀ b',(h:((ae u::bq u.kids).map aJ)=b':=by first | rfl | exact aW zL _ | (rw [hj0,mj];rfl) | (rw [hj0.2,mj,dB];first | done | rfl))→((ae u::bq u.kids).map aJ)=b':=(fun _ h=>h);let q:= [ak [iV (ae u).a,iV (ae u).i,iV (ae u).n]];exact bB Tryz.func19 (Mg 6 (MM (Nat × List TUnit × Unit) (Nat × List TUnit × Nat × Nat × List PId) [1,3,4] (Ac u) (IP u) (I0 u) (IR u) (fun x=>x.2.1.length) (fun x=>x.2.1.length) (.inl (0,u.kids,())) (aU ((Ac u) (0,u.kids,()))) (et (rfl:List.drop 0 (u.kids)=u.kids) (by rfl:(ae u::bq u.kids=ae u::bq u.kids))) (fun x0 hx0 nx0=>Mc x0.2.1 (fun hr0=>have lt0:=fP hx0.1 hr0;(have hj0:=ic (J:=fun r x=>ae u::bq u.kids=ae u::bq r) (a:=x0.2.2) hr0 hx0.2;(Kl 3 11 (Le.len (f:=aV) (l:=u.kids)) (Kh 0 lt0 (Kf 1 ((Le.lsp (rr0 (q)) (by rfl)):Le _ (kg q true))))))) (fun w0 r0 hr0=>have lt0:=gX hx0.1 hr0;(have glt0:=au lt0;(have nt0:=(fO (enc:=aV) hx0.1 hr0).trans (congrArg some (aA w0));(have hj0:=cW (J:=fun r x=>ae u::bq u.kids=ae u::bq r) (a:=x0.2.2) hr0 hx0.2;(have q0:(bq (w0::r0)).length=(ae w0::bq w0.kids).length+(bq r0).length:=(by rw [dO,gz,lA]);(Kl 3 11 (Le.len (f:=aV) (l:=u.kids)) (Kt 0 lt0 (Kx 3 nt0 (Kp 0 (ihk w0 (by exact ar hx0.1 hr0)) (M2 .apl (et (by simp_all:List.map aJ (ae w0::bq w0.kids)≠ []) (fw (sz:=3) (f:=aJ) (fun _=>by rfl) (ae w0::bq w0.kids))) (et (by (have z:=congrArg List.length hj0;simp only [lM,lC,lN] at *;refine ao (m:=2 ^ 21) ?_ ?_ ?_ <;> omega):small (([AV.agg [iV (ae u).a,iV (ae u).i,iV (ae u).n]]).length+((ae w0::bq w0.kids).map aJ).length) 24=true) rt) (M1 (.obj 1 (aZ 3 true 0 (([ae u]++ae w0::bq w0.kids).map aJ))) (congrArg (aZ 3 true 0) (by rfl:q++List.map aJ (ae w0::bq w0.kids)=List.map aJ ([ae u]++ae w0::bq w0.kids))) (Kl 2 14 (Le.wr (x:=Int.ofNat x0.1+1) eO) (Kf 0 (nx0 (.inr (x0.1+1,r0,(0,(q++List.map aJ (ae w0::bq w0.kids)).length, [ae u]++ae w0::bq w0.kids))) (et (bM hx0.1 hr0) (by exact ⟨by simp,by rw [hj0,dO,gz];rfl⟩:(([AV.agg [iV (ae u).a,iV (ae u).i,iV (ae u).n]]++List.map aJ (ae w0::bq w0.kids)).length=([ae u]++ae w0::bq w0.kids).length∧ae u::bq u.kids = [ae u]++ae w0::bq w0.kids++bq r0))) (fk hr0)))))))))))))))) (fun x0 hx0 nx0=>let q1:=List.map aJ x0.2.2.2.2;Mc x0.2.1 (fun hr0=>have lt0:=fP hx0.1 hr0;(have hj0:=ic (J:=fun r x=>x.2.1=x.2.2.length∧ae u::bq u.kids=x.2.2++bq r) (a:=x0.2.2) hr0 hx0.2;(Kl 3 11 (Le.len (f:=aV) (l:=u.kids)) (Kh 0 lt0 (Mg 1 (M2 (.fsl 0 [] 2 q1) ti (cp (aU (x0.2.2.1)) (CG (f:=aJ) (l:=x0.2.2.2.2) (n:=x0.2.2.2.1) (by omega:(x0.2.2.2.2).length=x0.2.2.2.1)) (aW zL (x0.2.2.2.2))) (Ml 2 (fx q1 (false) (aW zL (x0.2.2.2.2))) (Mf (b9 (rr0 q1)))))))))) (fun w0 r0 hr0=>have lt0:=gX hx0.1 hr0;(have glt0:=au lt0;(have nt0:=(fO (enc:=aV) hx0.1 hr0).trans (congrArg some (aA w0));(have hj0:=cW (J:=fun r x=>x.2.1=x.2.2.length∧ae u::bq u.kids=x.2.2++bq r) (a:=x0.2.2) hr0 hx0.2;(have q0:(bq (w0::r0)).length=(ae w0::bq w0.kids).length+(bq r0).length:=(by rw [dO,gz,lA]);(Kl 3 11 (Le.len (f:=aV) (l:=u.kids)) (Kt 0 lt0 (Kx 3 nt0 (Kp 0 (ihk w0 (by exact ar hx0.1 hr0)) (M2 .apl (et (by simp_all:List.map aJ (ae w0::bq w0.kids)≠ []) (fw (sz:=3) (f:=aJ) (fun _=>by rfl) (ae w0::bq w0.kids))) (cp (aU (x0.2.2.1)) (by simp_all:x0.2.2.2.1=(x0.2.2.2.2.map aJ).length) (by (have z:=congrArg List.length hj0.2;have z2:=hj0.1;simp only [lA,lM,lC,lN] at *;refine ao (m:=2 ^ 21) ?_ ?_ ?_ <;> omega):small (x0.2.2.2.1+((ae w0::bq w0.kids).map aJ).length) 24=true)) (M1 (.obj 1 (aZ 3 true (x0.2.2.1+1) ((x0.2.2.2.2++ae w0::bq w0.kids).map aJ))) (congrArg (aZ 3 true (x0.2.2.1+1)) (cC (f:=aJ) (l:=x0.2.2.2.2) (ws:=ae w0::bq w0.kids))) (Kl 2 14 (Le.wr (x:=Int.ofNat x0.1+1) eO) (Kf 0 (nx0 (.inr (x0.1+1,r0,(x0.2.2.1+1,x0.2.2.2.1+((ae w0::bq w0.kids).map aJ).length,x0.2.2.2.2++ae w0::bq w0.kids))) (et (bM hx0.1 hr0) (by grind [dO, gz]:(x0.2.2.2.1+((ae w0::bq w0.kids).map aJ).length=(x0.2.2.2.2++ae w0::bq w0.kids).length∧ae u::bq u.kids=x0.2.2.2.2++ae w0::bq w0.kids++bq r0))) (fk hr0))))))))))))))))))
theorem KM {S T:Int→Int→Prop} : ∀ (l:List PDeed) (u:TUnit),OkB u→(∀ d,d∈l→v9 d.it∧S d.act d.item∧T d.act d.item)→xJ S T u→xJ S T (dJ u l)∧ae (dJ u l)=ae u
  | [],_,_,_,h=>⟨h,rfl⟩
  | d::r,u,hu,hl,h=>by
    obtain ⟨h1,h2,h3⟩:=hl d (fg ..)
    have ht:=N5 hu h1
    obtain ⟨q1,q2⟩:=KM r (pv u d) (Eu hu h1) (fun x hx=>hl x (fK _ hx)) (ht.mks S T h2 (fun _=>h3) h)
    exact ⟨q1,q2.trans ht.root⟩
theorem VM {S T:Int→Int→Prop} : xJ S T rb:=fun x hx=>by
  have e:x=rb:=by simpa [rb,bx,dW] using hx
  subst e
  exact ⟨(fun w hw=>by cases hw), .inl rfl⟩
theorem Qo (gs:List PGaz):(lF gs).Pairwise WV:=List.pairwise_map.2 ((wE _ (T6 gs)).imp fun {d e} h=>by
  have h1:=Iv (am (eD gs) []) d
  have h2:=Iv (am (eD gs) []) e
  unfold WV at *;omega)
theorem GB {gs:List PGaz} {d:PDeed} (h:d∈lF gs) : ∃ a,a∈eD gs∧a.number=d.act∧a.day=d.day:=by
  obtain ⟨o,ho,rfl⟩:=jK.1 h
  obtain ⟨a,ha,hoa⟩:=List.mem_flatMap.1 ho
  obtain ⟨q1,q2,_⟩:=(m5 a _ 0).2 o hoa
  obtain ⟨p1,_,p3⟩:=Iv (am (eD gs) []) o
  exact ⟨a,ha,by omega,by omega⟩
theorem Qp {gs:List PGaz} {d e:PDeed} (hd:d∈lF gs) (he:e∈lF gs) (h1:e.act=d.act) (h2:e.item=d.item):e=d:=by
  obtain ⟨i,hi,e1⟩:=xG hd
  obtain ⟨j,hj,e2⟩:=xG he
  obtain ⟨a,a1,a2,a3⟩:=GB hd
  obtain ⟨b,b1,b2,b3⟩:=GB he
  have hab:=Nq a1 b1 (by omega)
  rw [hab] at a3
  have hp:=Ej.1 (Qo gs)
  rcases Nat.lt_trichotomy i j with h | h | h
  · have:=hp i j hi hj h;rw [e1,e2] at this;unfold WV at this;omega
  · subst h;rw [← e1,← e2]
  · have:=hp j i hj hi h;rw [e1,e2] at this;unfold WV at this;omega
theorem L7 {day:Int} {gs:List PGaz} {d:PDeed} (h:d∈jW day [] gs):dg d.it.for_ []=true:=by
  have z:=(nL.1 (sF.1 h).2).2
  unfold yC L8 at z
  have z:=(nL.1 z).1
  rwa [Bool.or_self] at z
theorem Ik {day:Int} {p:aP} {gs:List PGaz} (h:(jW day p gs).any UF=false):jW day p gs=jW day [] gs:=by
  unfold jW W0 ry at h ⊢
  refine List.filter_congr fun d hd=>?_
  unfold yC L8
  cases h1:fy d.it.kind with
  | false=>rfl
  | true=>
    cases h2:iw (da (cT (wN (eD gs) []) d.act) d (lF gs)) day with
    | false=>simp only [vu]
    | true=>
      cases h3:dg d.it.for_ [] with
      | true=>rfl
      | false=>
        cases h4:dg d.it.for_ p with
        | false=>rfl
        | true=>
          have z:=List.any_eq_false.1 h d (sF.2 ⟨hd,by unfold yC L8;rw [h1,h2,h3,h4];rfl⟩)
          unfold UF at z
          rw [h3] at z
          exact absurd rfl z
/-- The law of purposes, whole. -/
theorem C4 (day:Int) (p:aP) (gs:List PGaz) (hf:pb gs) (haw:kP 9 [] (.bool true)):kP 7 [iV day, .str p, .ls (gs.map aM)] (.bool true):=by
  have hw:=Tk gs p hf
  cases hb:MU gs p with
  | false=>rw [hb] at hw;exact UP day p gs haw hw
  | true=>
    rw [hb] at hw
    have ok:=(U6 hf hb).1
    have hB:=ok.okB day []
    obtain ⟨hm,hr⟩:=KM (S:=fun a i=>∃ e,e∈jW day [] gs∧e.act=a∧e.item=i) (T:=fun a i=>∃ e,e∈jW day [] gs∧e.act=a∧e.item=i) (jW day [] gs) rb Iu (fun d hd=>⟨(ok.force day []).2.1 d hd,⟨d,hd,rfl,rfl⟩,⟨d,hd,rfl,rfl⟩⟩) VM
    have key : ∀ d,d∈jW day p gs→dg d.it.for_ []=false→∀ a i,(∃ e,e∈jW day [] gs∧e.act=a∧e.item=i)→ab a d.act=true→ab i d.item=false:=fun d hd h0 a i ⟨e,e1,e2,e3⟩ h1=>by
      cases q:ab i d.item with
      | false=>rfl
      | true=>
        have h1:=gn h1
        have q:=gn q
        have:=Qp (sF.1 hd).1 (sF.1 e1).1 (by omega) (by omega)
        rw [← this,L7 e1] at h0;cases h0
    have hn:nU (kU day [] gs)≤2 ^ 20:=bH hB.n (by decide)
    have hl:(eX (kU day [] gs)).length≤2 ^ 20:=by
      rw [Aa]
      have z:=zg (B:=600) (l:=bx (kU day [] gs)) fun x hx=>by
        have:=hB.w x hx;unfold jL;rw [lA];omega
      have h3:(bx (kU day [] gs)).length=nU (kU day [] gs):=by rw [je];unfold dX;rw [lM]
      have:=hB.n;omega
    have hi:(ae (kU day [] gs)::bq (kU day [] gs).kids).length<2 ^ 30:=by rw [← gz,← je];omega
    refine UR day p gs (kU day [] gs) (jW day p gs) (eX (kU day [] gs)) _ haw hw (ok.book day []) (ok.force day p).2.2 (fun h=>?_) (OU _ hB) (PJ _ hn hl) (T1 _ hn) (ok.force day p).1 (by omega) hi (fun d hd h0 w hw h1=>?_) fun d hd h0 k hk hk2 h1=>?_
    · have z:=ok.book day p
      unfold kU at z ⊢
      rw [Ik h] at z;exact z
    · rw [Aa] at hw
      obtain ⟨x,hx,hwx⟩:=List.mem_flatMap.1 hw
      exact key d hd h0 _ _ ((hm x hx).1 w hwx) h1
    · have hmem:=gH hk2
      cases k with
      | zero=>cases hk
      | succ k=>
        have hk3:k<(bq (kU day [] gs).kids).length:=by simpa using hk2
        have e:gD (ae (kU day [] gs)::bq (kU day [] gs).kids) (k+1)=gD (bq (kU day [] gs).kids) k:=rfl
        rw [e] at h1 ⊢
        have hmm:=gH hk3
        have hu:gD (bq (kU day [] gs).kids) k∈dX (kU day [] gs):=by rw [gz];exact fK _ hmm
        unfold dX at hu
        obtain ⟨x,hx,hxe⟩:=jK.1 hu
        rcases (hm x hx).2 with q | q
        · exfalso
          have hnd:=hB.nd
          rw [gz] at hnd
          refine (List.nodup_cons.1 hnd).1 ?_
          rw [show ae (kU day [] gs)=ae rb from hr,show ae rb=ae x from q.symm,hxe];exact hmm
        · rw [← hxe] at h1 ⊢
          exact key d hd h0 _ _ q h1
end Go.Proofs.YtidehekfpcgelaaGreatDoor
