/- Functions walked: what each of them answers, for the law of order: part 8. Conditions: those that each theorem names. -/
import Derived.Test.YtempcdhknnjebaaGreatDoorH7
namespace Go.Proofs.YtempcdhknnjebaaGreatDoor
open Go Go.Ev
def ja (gs:List PGaz):List PAct:=gs.flatMap fun g=>g.acts
theorem jA (g:PGaz) (r:List PGaz):ja (g::r)=g.acts++ja r:=by simp [ja]
theorem sk : ∀ (gs:List PGaz) (out:List PAct),bQ gs out=(ja gs).foldl jz out
  | [],_=>rfl
  | g::r,out=>by rw [jA,List.foldl_append,← sk r];rfl
theorem Wy (gs:List PGaz) (hl:gs.length<900) (hb:(ja gs).length<10000):kP 69 [.ls (gs.map aU)] (.ls ((ja gs).map aj)):=by
  have rr0 b' (h:((ja gs).map aj)=b':=by first | rfl | exact aX zF _ | (rw [← hj0];rfl) | (rw [← hj0.2];simp [ja])):=h;exact bo Tryz.func69<|Mg 3<|kQ Nat Nat (List PAct) aU gs [0,3,4] (fun a _=>([aW<|gs.map aU,iK [] true,nV a],[])) (fun a _ b c d=>([aW<|gs.map aU,aD 0 b 0 c none,nV a],[aZ 7 true b<|d.map aj])) (fun a=>ja a=ja gs) (fun a _ b c=>b=c.length∧c++ja a=ja gs) (by rfl) (fun _ _ _ _ _ a hj0=>Kl 2 8 (ln aU gs)<|Kh 0 a<|Kf 1 (Le.lsp (rr0 [])<|by rfl:Le _ (AV.ps [] true))) (fun a _ _ _ b c d e _ f _ g hj0=>Kl 2 8 (ln aU gs)<|Kt 0 f<|Kx 2 g<|Mg 1<|Mc b.acts (fun e=>Ml 17 (eb<|by rw [e];rfl:Le (aW []) (aW (b.acts.map aj)))<|Kl 3 11 (dg a)<|Kf 0<|d<|by (rw [← hj0,jA];simp only [*,rz];done)) fun d f g=>Ml 17 (eb<|by rw [g]:Le (aW ((d::f).map aj)) (aW (b.acts.map aj)))<|M2 .apl (et (by exact kX _ _:List.map aj (d::f)≠ [])<|fM 7 aj (d::f) fun _=>rfl) (by (have z:=congrArg List.length hj0;rw [jA,lA] at z;refine cT (m:=10000) ?_ ?_ ?_ <;> first | omega | (simp only [lM];simp only [*] at z;omega)):small ((d::f).map aj).length 88=true)<|Kl 2 11 (dg a)<|Kf 0<|e 0 ((d::f).map aj).length (d::f)<|by exact ⟨by simp,by rw [← hj0,jA];simp only [*]⟩) (fun _ _ a b c _ _ _ d hj0=>Kl 2 8 (ln aU gs)<|Kh 0 d<|Mg 1<|M2 (.fsl 0 [] 2<|c.map aj) ti (bT (aY a) (tA aj c b (by (omega):(c).length=b))<|aX zF c)<|Ml 2 (fK (c.map aj) false<|aX zF c)<|Mf<|cJ<|rr0<|c.map aj) fun a _ b c d _ _ e f _ g _ i _ j hj0=>Kl 2 8 (ln aU gs)<|Kt 0 i<|Kx 2 j<|Mg 1<|Mc e.acts (fun i=>Ml 17 (eb<|by rw [i];rfl:Le (aW []) (aW (e.acts.map aj)))<|Kl 3 11 (dg a)<|Kf 0<|g b c d<|by exact ⟨hj0.1,by rw [← hj0.2,jA];simp only [*,rz]⟩) fun i j k=>Ml 17 (eb<|by rw [k]:Le (aW ((i::j).map aj)) (aW (e.acts.map aj)))<|M2 .apl (et (by exact kX _ _:List.map aj (i::j)≠ [])<|fM 7 aj (i::j) fun _=>rfl) (bT (aY b) (by (rw [lM];first | exact hj0.1 | (first | omega | (simp only [oN] at *;omega))):c=(d.map aj).length) (by (have z:=congrArg List.length hj0.2;rw [jA,lA,lA] at z;have z2:=hj0.1;refine cT (m:=10000) ?_ ?_ ?_ <;> first | omega | (simp only [lM];simp only [*] at z;omega)):small (c+((i::j).map aj).length) 88=true))<|M1 (.obj 0<|aZ 7 true (b+1)<|(d++i::j).map aj) (congrArg (aZ 7 true<|b+1)<|cN (f:=aj) (l:=d) (ws:=i::j))<|Kl 2 11 (dg a)<|Kf 0<|g (b+1) (c+((i::j).map aj).length) (d++i::j)<|by exact ⟨by (simp only [lA,lM];have:=hj0.1;omega),by rw [← hj0.2,jA,kE];simp only [*]⟩
noncomputable def py (n:Int):List PAct→Nat→Int
  | [],_=> -1
  | a::r,i=>match ae a.number n with | true=>Int.ofNat i | false=>py n r (i+1)
theorem IU {n:Int} {a:PAct} {r:List PAct} {i:Nat} (h:ae a.number n=true):py n (a::r) i=Int.ofNat i:=by simp only [py,h]
theorem PF {n:Int} {a:PAct} {r:List PAct} {i:Nat} (h:ae a.number n=false):py n (a::r) i=py n r (i+1):=by simp only [py,h]
theorem GQ (l:List PAct) (n:Int) (hl:l.length<2 ^ 40):kP 70 [.ls (l.map aj),iV n] (iV (py n l 0)):=by
  have rr0 b' (h:(py n l 0)=b':=by first | (rw [hj0];rfl) | (rw [hj0,IU ‹_›];congr 2;have z:=yc (zD0.trans hr0) (by simp) (by simp only [lC];omega:(l.length - (r0.length+1))+(w0::r0).length=l.length);exact z.symm) | (rw [hj0,IU ‹_›];congr 2;have z:=yc (zD0.trans hr0) (by simp) (by simp only [lC];omega:(l.length - (r0.length+1))+(w0::r0).length=l.length);exact z)):=h;exact bo Tryz.func70<|Mg 1<|sl aj l [0,1,5] (fun a _=>([aW<|l.map aj,iV n,nV a],[])) (fun a=>py n l (0:Nat)=py n a (l.length - a.length)) (by (rw [Nat.sub_self])) (fun _ _ zD0 _ hr0 a hj0=>Kl 2 8 (ln aj l)<|Kh 0 a<|Kf 0<|li<|rr0 (-1)) fun a _ zD0 _ w0 r0 b hr0 c _ d hj0=>have :=gK zD0 hr0;Kl 2 8 (ln aj l)<|Kt 0 c<|Kx 1 d<|Kj 3 w0.number n (fun _ _=>Kf 1<|li<|rr0<|Int.ofNat a) fun _ _=>Kl 1 11 (dg a)<|Kf 0<|b<|by (rw [hj0,PF (by assumption)];congr 1;have:=gK zD0 hr0;simp only [lC];omega)
theorem yP {α:Type} {f:α→AV} {l:List α} (h:0<l.length):l.map f≠ []:=by
  intro e;have:=congrArg List.length e;simp at this;subst this;simp at h
/-- A number put into a rising list, once. -/
def qK (n:Int):List Int→List Int
  | []=> [n]
  | x::r=>match ar x n with | true=>x::qK n r | false=>match ae x n with | true=>x::r | false=>n::x::r
theorem FB {n:Int} : ∀ {out:List Int} {k:Nat},(∀ j,j<k→ar (gD out j) n=true)→out.length≤k→qK n out=out++ [n]
  | [],_,_,_=>rfl
  | x::r,0,_,hk=>by simp at hk
  | x::r,k+1,hj,hk=>by
    have h0:ar x n=true:=hj 0 (rq _)
    have ih:=FB (n:=n) (out:=r) (k:=k) (fun j h=>hj (j+1) (Nat.succ_lt_succ h)) (by simpa using hk)
    simp only [qK,h0,ih,pp]
theorem DV {n:Int} : ∀ {out:List Int} {k:Nat},(∀ j,j<k→ar (gD out j) n=true)→k<out.length→ar (gD out k) n=false→qK n out=match ae (gD out k) n with | true=>out | false=>out.take k++n::out.drop k
  | [],_,_,hk,_=>by simp at hk
  | x::r,0,_,_,h=>by
    have h0:ar x n=false:=h
    show qK n (x::r)=match ae x n with | true=>x::r | false=>n::x::r
    simp only [qK,h0]
  | x::r,k+1,hj,hk,h=>by
    have h0:ar x n=true:=hj 0 (rq _)
    have ih:=DV (n:=n) (out:=r) (k:=k) (fun j h=>hj (j+1) (Nat.succ_lt_succ h)) (by simpa using hk) h
    have e:gD (x::r) (k+1)=gD r k:=rfl
    rw [e]
    simp only [qK,h0,ih]
    cases ae (gD r k) n <;> simp
theorem FA {n:Int} : ∀ (out:List Int),(qK n out).length≤out.length+1
  | []=>by simp [qK]
  | x::r=>by
    have:=FA (n:=n) r
    simp only [qK]
    cases ar x n <;> cases ae x n <;> simp <;> omega
noncomputable def Rr (L:List PAct):List PAct→Nat→List Int→List Int
  | [],_,out=>out
  | a::r,i,out=>match ae (py a.number L 0) (.ofNat i) with | true=>Rr L r (i+1) out | false=>Rr L r (i+1) (qK a.number out)
/-- The numbers that come twice. -/
noncomputable def Nf (L:List PAct):List Int:=Rr L L 0 []
def DN (L r:List PAct) (out:List Int):Prop:=∃ p,L=p++r∧Nf L=Rr L r p.length out∧out.length≤p.length
theorem DN.start (L:List PAct):DN L L []:=⟨[],rfl,rfl,al _⟩
theorem K6 {L r:List PAct} {w:PAct} {i:Nat} (hd:L.drop i=w::r) : ∀ p,L=p++w::r→p.length=i:=fun p hp=>by
  have h1:=congrArg List.length hd
  have h2:=congrArg List.length hp
  rw [jC] at h1
  rw [lA] at h2
  simp only [lC] at h1 h2;omega
theorem DN.old {L r:List PAct} {out:List Int} {w:PAct} {i:Nat} (h:DN L (w::r) out) (hd:L.drop i=w::r) (hn:ae (py w.number L 0) (Int.ofNat i)=true):DN L r out:=by
  obtain ⟨p,hp,ho,hl⟩:=h
  have hi:=K6 hd p hp
  refine ⟨p++ [w],by rw [hp,kE];rfl,?_,by simp;omega⟩
  rw [ho,lA];simp only [Rr,hi,hn,lC,lN]
theorem DN.new {L r:List PAct} {out:List Int} {w:PAct} {i:Nat} (h:DN L (w::r) out) (hd:L.drop i=w::r) (hn:ae (py w.number L 0) (Int.ofNat i)=false):DN L r (qK w.number out):=by
  obtain ⟨p,hp,ho,hl⟩:=h
  have hi:=K6 hd p hp
  refine ⟨p++ [w],by rw [hp,kE];rfl,?_,by have:=FA (n:=w.number) out;simp;omega⟩
  rw [ho,lA];simp only [Rr,hi,hn,lC,lN]
theorem DN.len {L r:List PAct} {out:List Int} (h:DN L r out):out.length+r.length≤L.length:=by
  obtain ⟨p,hp,_,hl⟩:=h
  rw [hp,lA];omega
theorem DN.done {L:List PAct} {out:List Int} (h:DN L [] out):out=Nf L:=by
  obtain ⟨p,_,ho,_⟩:=h
  exact ho.symm
theorem UO {w:PAct} {out:List Int} {k:Nat} (hj : ∀ j,j<k→ar (gD out j) w.number=true) (hk:k<out.length) (h:ar (gD out k) w.number=false) (e:ae (gD out k) w.number=false):qK w.number out=(out.set k w.number).take (k+1)++out.drop k:=by
  rw [Jc hk,DV hj hk h,e]
theorem RF {w:PAct} {out:List Int} {k:Nat} (hj : ∀ j,j<k→ar (gD out j) w.number=true) (hk:k<out.length) (h:ar (gD out k) w.number=false) (e:ae (gD out k) w.number=true):qK w.number out=out:=by
  rw [DV hj hk h,e]
theorem RE {n:Int} {out:List Int} {k e:Nat} (hj : ∀ j,j<k→ar (gD out j) n=true) (h:ar (gD out k) n=true) (he:e=k+1) : ∀ j,j<e→ar (gD out j) n=true:=fun j q=>by
  rcases fJ j k with c | c
  · exact hj j c
  · rw [show j=k by omega];exact h
theorem NS (gs:List PGaz) (hg:gs.length<900) (hl:(ja gs).length<10000):kP 42 [.ls (gs.map aU)] (.ls ((Nf (ja gs)).map ab)):=by
  have ha:=Wy gs hg hl
  generalize ja gs=L at *
  have hdone : ∀ out,DN L [] out→out=Nf L:=fun out h=>h.done
  have rr0 b' (h:((Nf L).map ab)=b':=by first | rfl | exact aX Ir _ | (rw [← hdone _ hj0];rfl) | (rw [hdone _ hj0.2.2])):=h;exact bo Tryz.func42<|Kp 1 ha<|Mg 3<|kQ Nat Nat (List Int) aj L [3,4,5] (fun a _=>([aW<|L.map aj,iK [] true,nV a],[])) (fun a _ b c d=>([aW<|L.map aj,aD 0 b 0 c none,nV a],[aZ 1 true b<|d.map ab])) (fun a=>DN L a []) (fun a _ b c=>b=c.length∧(0:Nat)<c.length∧DN L a c) (by (exact DN.start L)) (fun _ _ _ _ _ a hj0=>Kl 2 13 (ln aj L)<|Kh 0 a<|Kf 1 (Le.lsp (rr0 [])<|by rfl:Le _ (AV.ps [] true))) (fun a _ b _ c d e f g i _ k hj0=>Kl 2 13 (ln aj L)<|Kt 0 i<|Kx 2 k<|Kp 1 (GQ L c.number<|by (omega))<|Kj 1 (py c.number L 0) (Int.ofNat a) (fun _ _=>Kl 1 16 (gP a)<|Kf 0<|e<|by exact hj0.old (b.trans g) (by assumption)) fun _ _=>Mg 0<|Wc [3,4,5,6] ([aW<|L.map aj,iK [] true,nV a,iV 0],[]) True 0 ti fun _ _=>Kx 24 k<|Kl 8 16 (gP a)<|Kf 0<|f 0 1 [c.number]<|by exact ⟨rfl,by simp,hj0.new (b.trans g) (by assumption)⟩) (fun _ _ a b c _ _ _ d hj0=>Kl 2 13 (ln aj L)<|Kh 0 d<|Mg 1<|M2 (.fsl 0 [] 2<|c.map ab) ti (bT (aY a) (tA ab c b (by (omega):(c).length=b))<|aX Ir c)<|Ml 2 (fK (c.map ab) false<|aX Ir c)<|Mf<|cJ<|rr0<|c.map ab) fun a _ b c d e _ f g _ i k l _ n hj0=>Kl 2 13 (ln aj L)<|Kt 0 l<|Kx 2 n<|Kp 1 (GQ L f.number<|by (omega))<|Kj 1 (py f.number L 0) (Int.ofNat a) (fun _ _=>Kl 1 16 (gP a)<|Kf 0<|i b c d<|by exact ⟨hj0.1,hj0.2.1,hj0.2.2.old (e.trans k) (by assumption)⟩) fun _ _=>Mg 0<|YE (0:Nat) [3,4,5,6] (fun e=>([aW<|L.map aj,aD 0 b 0 c none,nV a,nV e],[aZ 1 true b<|d.map ab])) (fun a=>a≤d.length∧∀ (j:Nat),j<a→ar (gD d j) f.number=true) (fun a=>d.length - a) (by exact ⟨bE _,fun j hj=>absurd hj (pW _)⟩) fun l o p=>have o:=o;have :d.length≤10000:=(by have z:=hj0.2.2.len;simp only [lC] at z;omega);Ka 4 (Int.ofNat l) (Int.ofNat c) (fun q _=>Kt 0 q<|Kt 0 q<|M1 .rix (et (aY b) (by (simp only [oN,lM,lS] at *;omega):l<c))<|Mt q<|Mr (et (aY b)<|aM ab (by (simp only [oN,lM,lS] at *;omega):l<(d).length))<|Mt q<|Kt 0 q<|Kt 0 q<|Mx n<|Mt q<|Kt 0 q<|Kt 0 q<|Ku 0 q<|Mb (ar (gD d l) f.number) (fun a=>have :=au a;Kl 1 43 (gP l)<|Kf 0<|p (l+1) (by exact ⟨by (simp only [oN] at *;omega),RE o.2 (by assumption) rfl⟩)<|by (simp only [oN] at *;omega)) fun p=>have :=aB p;Kj 4 (Int.ofNat l) (Int.ofNat c) (fun e k=>Mt e<|Mt e<|Mt e<|Mt e<|Mt e<|Mt e<|Mt e<|Mt e<|Mt e<|MV e<|Kl 3 62 (mO (k:=IntKind.i64) k)<|M1 .slc (bT (aY b) (oA:c≤c) (oA:c≤(d.map ab).length))<|Mw (.opv (iK [] true) (aa [aZ 1 true b<|d.map ab])<|.go 2<|.slc<|.go 1<|.elem (aj f)<|.go 2<|.apx ((d++ [f.number]).map ab)<|.go 0<|.app<|.go 2<|.le 16 (nV<|a+1)<|.go 0 .fin)<|Ts (vp (sz:=1) (b:=8) (id:=0) (ep:=b) (off:=c) (len:=pw c c) (op:=true) (cap:=none) (h:=aa [aZ 1 true b<|d.map ab]) (xs:=List.map ab d) (by kernel_rfl) (by (omega):pw c c=0)) (bT (aY b) (oA:0≤l) (oA:l≤(d.map ab).length)) n rt (eC (tR 1 true b 1<|aX Ir d) rt) (et (kX _ _:([iV f.number]:List AV)≠ []) rt) (et (bT (aY b) (by (omega):l=(d.map ab).length) (by (omega):small (l+([iV f.number]).length) 8=true))<|cN (f:=ab) (l:=d) (ws:=[f.number])) rt (eC (tR 1 true (b+1) 1<|aX Ir<|d++ [f.number]) rt) (gP a)<|i (b+1) (l+1) (d++ [f.number])<|by (exfalso;have e1:=o.1;have e2:=hj0.1;simp only [oN] at *;omega)) fun p _=>Kh 0 p<|Kh 0 p<|M1 .rix (et (aY b) (by (simp only [oN,lM,lS] at *;omega):l<c))<|Mh p<|Mr (et (aY b)<|aM ab (by (simp only [oN,lM,lS] at *;omega):l<(d).length))<|Mh p<|Kh 0 p<|Kh 0 p<|Mx n<|Mh p<|Kh 0 p<|Kh 0 p<|Kw 0 p<|Mn (ae (gD d l) f.number) (fun p=>have :=wi p;K1 2 .slc (bT (aY b) (oA:l≤c) (by (simp only [oN,lM,lS] at *;omega):c≤(d.map ab).length))<|Mw (.opv (aD 1 0 0 (pw c l) none) (aa [aZ 1 true b<|d.map ab,aZ 1 true 0<|(d.drop l).map ab])<|.go 2<|.slc<|.go 1<|.elem (aj f)<|.go 2<|.opv (aD 0 b 0 (l+1) none) (AHeap.put (AHeap.mk 2<|bv (aa [aZ 1 true b<|d.map ab,aZ 1 true 0<|(d.drop l).map ab]) [0] Tr.nil) 0<|aZ 1 true b<|(d.set l f.number).map ab)<|.go 0<|.opv (aD 0 (b+1) 0 (l+1+((d.drop l).map ab).length) none) (AHeap.put (AHeap.mk 2<|bv (aa [aZ 1 true b<|(d.set l f.number).map ab,aZ 1 true 0<|(d.drop l).map ab]) [0,1] Tr.nil) 0<|aZ 1 true (b+1)<|((d.set l f.number).take (l+1)++List.drop l d).map ab)<|.go 2<|.le 16 (nV<|a+1)<|.go 0<|.frz 1 [3,4,5] .fin)<|Qj (RX (sz:=1) (b:=8) (id:=0) (ep:=b) (off:=l) (len:=pw c l) (op:=true) (cap:=none) (h:=aa [aZ 1 true b<|d.map ab]) (xs:=List.map ab d) (ys:=List.map ab<|d.drop l) (by kernel_rfl) (((by (simp only [xw] <;> (omega)):l+pw c l=(d).length)).trans (bI ..).symm) Qn (fM 1 ab (d.drop l) fun _=>rfl) (by (simp only [xw] <;> (simp only [oN,lM,lS] at *;omega)):0<pw c l) (by (have z:=hj0.2.2.len;simp only [lC] at z;refine cT (m:=20000) ?_ ?_ ?_ <;> first | (omega) | (simp only [lM,jC,lC,lN,xw] <;> (omega))):small (pw c l) 8=true)) (bT (aY b) (oA:0≤l) (by (simp only [oN,lM,lS] at *;omega):l≤(d.map ab).length)) n rt (eC (tR 1 true b 2<|aX Ir d) rt) (Ww (sz:=1) (b:=8) (id:=0) (ep:=b) (len:=l) (op:=true) (h:=AHeap.mk 2<|bv (aa [aZ 1 true b<|d.map ab,aZ 1 true 0<|(d.drop l).map ab]) [0] Tr.nil) (xs:=List.map ab d) (new:=[iV f.number]) (xs':=List.map ab<|d.set l f.number) (x:=iK [iV f.number] true) (by kernel_rfl) (by kernel_rfl) rt (kX _ _) (bH (by (simp only [oN,lM,lS] at *;omega):l+1≤(d).length)<|so (bI ..).symm) (K9 (f:=ab) (g:=ab) (fun _=>rfl) (l:=d) (k:=l) (w:=f.number) (by (simp only [oN,lM,lS] at *;omega):l<(d).length)) (by (have z:=hj0.2.2.len;simp only [lC] at z;refine cT (m:=20000) ?_ ?_ ?_ <;> first | (omega) | (simp only [lM,jC,lC,lN,xw] <;> (first | omega | (simp only [oN] at *;omega)))):small (l+1) 8=true)) rt (eC (tR 1 true b 2<|aX Ir<|d.set l f.number)<|eC (tR 1 true 0 2<|aX Ir<|d.drop l) rt) (RW (sz:=1) (b:=8) (id:=0) (ep:=b) (len:=l+1) (h:=AHeap.mk 2<|bv (aa [aZ 1 true b<|(d.set l f.number).map ab,aZ 1 true 0<|(d.drop l).map ab]) [0,1] Tr.nil) (xs:=List.map ab<|d.set l f.number) (new:=List.map ab<|d.drop l) (xs':=List.map ab<|(d.set l f.number).take (l+1)++List.drop l d) (x:=aD 1 0 0 (pw c l) none) (by kernel_rfl) (OK (id:=1) (sz:=1) (op:=true) (ep:=0) (h:=AHeap.mk 2<|bv (aa [aZ 1 true b<|(d.set l f.number).map ab,aZ 1 true 0<|(d.drop l).map ab]) [0,1] Tr.nil) (xs:=List.map ab<|d.drop l) (by kernel_rfl)<|((by (simp only [lM,jC] <;> first | (first | omega | (simp only [oN,lM,lS] at *;omega) | (simp only [oN,lM,lS,lA,lR,lC,lN] at * <;> omega)) | (simp only [xw] <;> (omega))):pw c l=(d.drop l).length)).trans (bI ..).symm) (fM 1 ab (d.drop l) fun _=>rfl) (by exact yP (by (simp only [jC] <;> (simp only [oN] at *;omega))):List.map ab (d.drop l)≠ []) (by (simp only [lM,jC,lS] <;> first | (omega) | (simp only [xw] <;> (first | omega | (simp only [oN,lM,lS] at *;omega) | (simp only [oN,lM,lS,lA,lR,lC,lN] at * <;> omega)))):((d.set l f.number).map ab).length<l+1+((d.drop l).map ab).length) N5 (by (have z:=hj0.2.2.len;simp only [lC] at z;refine cT (m:=20000) ?_ ?_ ?_ <;> first | (omega) | (simp only [lM,jC,lC,lN,xw] <;> (omega))):small (l+1+((d.drop l).map ab).length) 8=true)) (gP a) (et (tR 1 true (b+1) 1<|aX Ir<|(d.set l f.number).take (l+1)++List.drop l d) ti)<|i (b+1) (l+1+((d.drop l).map ab).length) (List.take (l+1) (d.set l f.number)++List.drop l d)<|by exact ⟨by (simp only [lA,lM,xG,lS,jC] <;> (simp only [oN] at *;omega)),by (simp only [lA,xG,lS,jC] <;> (omega)),by rw [← UO o.2 (by (simp only [oN] at *;omega)) (by assumption) (by assumption)];exact hj0.2.2.new (e.trans k) (by assumption)⟩) fun f=>have :=ge f;Kl 1 16 (gP a)<|Kf 0<|i b c d<|by exact ⟨hj0.1,hj0.2.1,by have z:=hj0.2.2.new (e.trans k) (by assumption);rw [RF o.2 (by (simp only [oN] at *;omega)) (by assumption) (by assumption)] at z;exact z⟩) fun p _=>Mh p<|Mh p<|Mh p<|Mh p<|Mh p<|Mh p<|Mh p<|Mh p<|Mh p<|My p<|Kj 5 (Int.ofNat l) (Int.ofNat c) (fun p q=>Mt p<|Mt p<|Mt p<|Mt p<|Mt p<|Mt p<|Mt p<|Mt p<|Mt p<|MV p<|Kl 3 62 (mO (k:=IntKind.i64) q)<|M1 .slc (bT (aY b) (oA:c≤c) (by (simp only [oN,lM,lS] at *;omega):c≤(d.map ab).length))<|Mw (.opv (iK [] true) (aa [aZ 1 true b<|d.map ab])<|.go 2<|.slc<|.go 1<|.elem (aj f)<|.go 2<|.apx ((d++ [f.number]).map ab)<|.go 0<|.app<|.go 2<|.le 16 (nV<|a+1)<|.go 0 .fin)<|Ts (vp (sz:=1) (b:=8) (id:=0) (ep:=b) (off:=c) (len:=pw c c) (op:=true) (cap:=none) (h:=aa [aZ 1 true b<|d.map ab]) (xs:=List.map ab d) (by kernel_rfl) (by (simp only [xw] <;> (omega)):pw c c=0)) (bT (aY b) (oA:0≤l) (by (simp only [oN,lM,lS] at *;omega):l≤(d.map ab).length)) n rt (eC (tR 1 true b 1<|aX Ir d) rt) (et (kX _ _:([iV f.number]:List AV)≠ []) rt) (et (bT (aY b) (by (simp only [lM,lS];(simp only [oN] at *;omega)):l=(d.map ab).length) (by (have z:=hj0.2.2.len;simp only [lC] at z;refine cT (m:=20000) ?_ ?_ ?_ <;> first | (omega) | (simp only [lM,jC,lC,lN,xw] <;> (omega))):small (l+([iV f.number]).length) 8=true))<|cN (f:=ab) (l:=d) (ws:=[f.number])) rt (eC (tR 1 true (b+1) 1<|aX Ir<|d++ [f.number]) rt) (gP a)<|i (b+1) (l+1) (d++ [f.number])<|by exact ⟨by (simp only [lA,lC,lN] <;> (simp only [oN] at *;omega)),by (simp only [lA,lC,lN] <;> (omega)),by rw [← FB o.2 (by (simp only [oN] at *;omega))];exact hj0.2.2.new (e.trans k) (by assumption)⟩) fun e _=>Kh 0 e<|Kh 0 e<|M1 .rix (et (aY b) (by (simp only [oN,lM,lS] at *;omega):l<c))<|Mh e<|Mr (et (aY b)<|aM ab (by (simp only [oN,lM,lS] at *;omega):l<(d).length))<|Mh e<|Kh 0 e<|Kh 0 e<|Mx n<|Mh e<|Kh 0 e<|Kh 0 e<|Kw 0 e<|Mn (ae (gD d l) f.number) (fun e=>have :=wi e;K1 2 .slc (bT (aY b) (oA:l≤c) (by (simp only [oN,lM,lS] at *;omega):c≤(d.map ab).length))<|Mw (.opv (iK [] true) (aa [aZ 1 true b<|d.map ab])<|.go 2<|.slc<|.go 1<|.elem (aj f)<|.go 2<|.apx ((d++ [f.number]).map ab)<|.go 0<|.app<|.go 2<|.le 16 (nV<|a+1)<|.go 0 .fin)<|Ts (vp (sz:=1) (b:=8) (id:=0) (ep:=b) (off:=l) (len:=pw c l) (op:=true) (cap:=none) (h:=aa [aZ 1 true b<|d.map ab]) (xs:=List.map ab d) (by kernel_rfl) (by (simp only [oN,lM,lS] at *;omega):pw c l=0)) (bT (aY b) (oA:0≤l) (by (simp only [oN,lM,lS] at *;omega):l≤(d.map ab).length)) n rt (eC (tR 1 true b 1<|aX Ir d) rt) (et (kX _ _:([iV f.number]:List AV)≠ []) rt) (et (bT (aY b) (by (simp only [oN] at *;omega):l=(d.map ab).length) (by (simp only [oN] at *;omega):small (l+([iV f.number]).length) 8=true))<|cN (f:=ab) (l:=d) (ws:=[f.number])) rt (eC (tR 1 true (b+1) 1<|aX Ir<|d++ [f.number]) rt) (gP a)<|i (b+1) (l+1) (d++ [f.number])<|by (exfalso;have e1:=o.1;have e2:=hj0.1;simp only [oN] at *;omega)) fun e=>have :=ge e;Kl 1 16 (gP a)<|Kf 0<|i b c d<|by (exfalso;have e1:=o.1;have e2:=hj0.1;simp only [oN] at *;omega)
theorem Sg (gs:List PGaz) (hg:gs.length<900) (hl:(ja gs).length<10000):kP 23 [.ls (gs.map aU)] (.bool (ae (.ofNat (Nf (ja gs)).length) 0)):=by
  have ht:=NS gs hg hl
  exact bo Tryz.func23<|Kp 1 ht<|Kl 0 5 (ln ab<|Nf<|ja gs)<|Kf 1<|bq<|dB<|ae (Int.ofNat (Nf<|ja gs).length) 0
/-- What the law of order calls, at any order of the gazettes. -/
structure OrdC (day:Int) (p:aN) (gs:List PGaz) (V:TUnit) (F:List PFail):Prop where
  b : ∀ M:List PGaz,M.Perm gs→kP 12 [iV day, .str p, .ls (M.map aU)] (eU V)
  f : ∀ M:List PGaz,M.Perm gs→kP 15 [iV day, .str p, .ls (M.map aU)] (.ls (F.map cV))
  s:kP 11 [eU V,eU V] (.bool true)
  m:kP 14 [.ls (F.map cV), .ls (F.map cV)] (.bool true)
theorem VJ (day:Int) (p:aN) (gs:List PGaz) (k:Int) (haw:kP 9 [] (.bool true)) (hw:kP 10 [.ls (gs.map aU), .str p] (.bool false)):kP 6 [iV day, .str p, .ls (gs.map aU),iV k] (.bool true):=by
  exact bo Tryz.func6<|Kp 0 haw<|Kp 3 hw<|Kf 8<|bq<|dB true
theorem Sb (day:Int) (p:aN) (gs:List PGaz) (k:Int) (haw:kP 9 [] (.bool true)) (hw:kP 10 [.ls (gs.map aU), .str p] (.bool true)) (g1:ar k 0=true):kP 6 [iV day, .str p, .ls (gs.map aU),iV k] (.bool true):=by
  exact bo Tryz.func6<|Kp 0 haw<|Kp 3 hw<|Kt 5 g1<|Mt g1<|Mt g1<|Mt g1<|MV g1<|Kf 3<|bq<|dB true
theorem Sd (day:Int) (p:aN) (gs:List PGaz) (k:Int) (haw:kP 9 [] (.bool true)) (hw:kP 10 [.ls (gs.map aU), .str p] (.bool true)) (g1:ar k 0=false) (g2:ar (.ofNat gs.length) k=true):kP 6 [iV day, .str p, .ls (gs.map aU),iV k] (.bool true):=by
  exact bo Tryz.func6<|Kp 0 haw<|Kp 3 hw<|Kh 5 g1<|Kh 0 g1<|Kh 0 g1<|Kl 0 24 (ln aU gs)<|Mh g1<|Kw 0 g1<|Kt 0 g2<|Mt g2<|Mt g2<|MV g2<|Kf 1<|bq<|dB true
theorem Lu (day:Int) (p:aN) (gs:List PGaz) (k:Int) (haw:kP 9 [] (.bool true)) (hw:kP 10 [.ls (gs.map aU), .str p] (.bool true)) (ho:kP 23 [.ls (gs.map aU)] (.bool false)) (g1:ar k 0=false) (g2:ar (.ofNat gs.length) k=false):kP 6 [iV day, .str p, .ls (gs.map aU),iV k] (.bool true):=by
  exact bo Tryz.func6<|Kp 0 haw<|Kp 3 hw<|Kh 5 g1<|Kh 0 g1<|Kh 0 g1<|Kl 0 24 (ln aU gs)<|Mh g1<|Kw 0 g1<|Kh 0 g2<|Kh 0 g2<|Mp ho<|Mh g2<|Kw 0 g2<|Kf 1<|bq<|dB true
abbrev E3 (gs:List PGaz) (n:Nat):Nat:=((gs.drop n).map aU).length+((gs.take n).map aU).length
theorem VK (day:Int) (p:aN) (gs:List PGaz) (n:Nat) (V:TUnit) (F:List PFail) (hn:n<gs.length) (hn0:0<n) (h8:gs.length≤8) (haw:kP 9 [] (.bool true)) (hw:kP 10 [.ls (gs.map aU), .str p] (.bool true)) (ho:kP 23 [.ls (gs.map aU)] (.bool true))
    (g1:ar (Int.ofNat n) 0=false) (g2:ar (.ofNat gs.length) (.ofNat n)=false) (hc:OrdC day p gs V F) :
    kP 6 [iV day, .str p, .ls (gs.map aU),nV n] (.bool true):=by
  have hB:=hc.b
  have hF:=hc.f
  have Up:=hc.b gs (.refl _)
  have hF0:=hc.f gs (.refl _)
  have hS:=hc.s
  have hMi:=hc.m
  have l1:(gs.take n).length=n:=by rw [xG];omega
  have l2:(gs.drop n).length=gs.length - n:=jC ..
  have e0:(gs.drop n++gs.take n).Perm gs:=(List.perm_append_comm).trans (by rw [EJ])
  have l3:((gs.drop n).map aU).length+((gs.take n).map aU).length=gs.length:=by simp only [lM];omega
  have l4:E3 gs n=gs.length:=l3
  have td : ∀ c:Nat,(Int.ofNat c).tdiv 2=Int.ofNat (c / 2):=fun c=>by simp only [oN];rw [Int.tdiv_eq_ediv_of_nonneg (Int.natCast_nonneg c)];omega
  exact bo Tryz.func6<|Kp 0 haw<|Kp 3 hw<|Kl 8 24 (ln aU gs)<|Kh 2 g2<|Kh 0 g2<|Mp ho<|Mh g2<|Kw 0 g2<|K1 3 (.slp<|(gs.drop n).map aU) (bT (hM 4 aU gs fun _=>rfl) (et (by (simp only [oN,lM,lS] at *;omega):n≤(gs.map aU).length) (oA:(gs.map aU).length≤(gs.map aU).length))<|OU (f:=aU) (l:=gs) (k:=n))<|M4 (.apx<|(gs.drop n).map aU) rt rt (et (by exact yP (by omega):List.map aU (gs.drop n)≠ [])<|fM 4 aU (gs.drop n) fun _=>rfl) (et (aY<|(gs.drop n).map aU) (by exact aA (m:=16) (by first | omega | (simp only [lM,lA];omega)) (by decide) (by decide):small ((gs.drop n).map aU).length 56=true))<|K1 1 (.slp<|(gs.take n).map aU) (bT (hM 4 aU gs fun _=>rfl) (et (oA:0≤n) (by (simp only [oN,lM,lS] at *;omega):n≤(gs.map aU).length))<|OY (f:=aU) (l:=gs) (h:=n))<|M4 (.apx<|(gs.drop n++List.take n gs).map aU) rt (eC (tR 4 true 0 1<|aX Is<|gs.drop n) rt) (et (by exact yP (by omega):List.map aU (gs.take n)≠ [])<|fM 4 aU (gs.take n) fun _=>rfl) (et (bT (aY 0) (by (omega):((gs.drop n).map aU).length=((gs.drop n).map aU).length) (by exact aA (m:=16) (by first | omega | (simp only [lM,lA];omega)) (by decide) (by decide):small (E3 gs n) 56=true))<|cN (f:=aU) (l:=List.drop n gs) (ws:=List.take n gs))<|Mg 1<|HU (0:Nat) (List.drop n gs++List.take n gs) [0,1,2,3,9,10] (fun a b=>([iV day,aw p,aW<|gs.map aU,nV n,aD 0 1 0 (E3 gs n) none,nV a],[aZ 4 true 1<|b.map aU])) (fun a b=>a≤gs.length∧b.Perm gs) (fun a _=>gs.length - a) (by exact ⟨bE _,e0⟩) fun a b d e=>have d:a≤gs.length∧b.Perm gs:=d;have :b.length=gs.length:=d.2.length_eq;have :(Int.ofNat (E3 gs n)).tdiv (2:Int)=Int.ofNat ((E3 gs n) / (2:Nat)):=td _;Kl 3 44 (Le.wr (x:=(Int.ofNat<|E3 gs n).tdiv 2) ef)<|Ka 0 (Int.ofNat a) ((Int.ofNat<|E3 gs n).tdiv 2) (fun _ _=>Kj 2 ((Int.ofNat n).tmod 2) 1 (fun _ _=>Mg 4<|Ma (bB (x:=Int.ofNat (E3 gs n) - (1:Int)) (n:=E3 gs n - 1) ef)<|Mg 0<|Ma (bB (x:=Int.ofNat (E3 gs n - 1) - Int.ofNat a) (n:=E3 gs n - 1 - a) ef)<|Mg 2<|Ma (bB (x:=Int.ofNat (E3 gs n) - (1:Int)) (n:=E3 gs n - 1) ef)<|Mg 0<|Ma (bB (x:=Int.ofNat (E3 gs n - 1) - Int.ofNat a) (n:=E3 gs n - 1 - a) ef)<|M1 .rix (et (aY 1) (oA:E3 gs n - 1 - a<E3 gs n))<|Mr (et (aY 1)<|aM aU (oA:E3 gs n - 1 - a<(b).length))<|K1 1 .rix (et (aY 1) (by (simp only [oN,lM,lS] at *;omega):a<E3 gs n))<|Mr (et (aY 1)<|aM aU (by (simp only [oN,lM,lS] at *;omega):a<(b).length))<|M1 .rix (et (aY 1) (by (simp only [oN,lM,lS] at *;omega):a<E3 gs n))<|M3 (.rst (aU<|gD b a)<|(b.set a<|gD b<|E3 gs n - 1 - a).map aU) rt (eC (tR 4 true 1 1<|aX Is b) rt) (bT (aY 1) (aM aU (by (simp only [oN,lM,lS] at *;omega):a<(b).length))<|g0 (f:=aU) (l:=b) (i:=a) (w:=gD b<|E3 gs n - 1 - a))<|M1 .rix (et (aY 1) (oA:E3 gs n - 1 - a<E3 gs n))<|M3 (.rst (aU<|gD (b.set a<|gD b<|E3 gs n - 1 - a)<|E3 gs n - 1 - a)<|((b.set a<|gD b<|E3 gs n - 1 - a).set (E3 gs n - 1 - a)<|gD b a).map aU) rt (eC (tR 4 true 1 1<|aX Is<|b.set a<|gD b<|E3 gs n - 1 - a) rt) (bT (aY 1) (aM aU (by (simp only [oN,lM,lS] at *;omega):E3 gs n - 1 - a<(b.set a (gD b (E3 gs n - 1 - a))).length))<|g0 (f:=aU) (l:=b.set a<|gD b<|E3 gs n - 1 - a) (i:=E3 gs n - 1 - a) (w:=gD b a))<|Kl 1 47 (gP a)<|Kf 0<|e (a+1) ((b.set a<|gD b<|E3 gs n - 1 - a).set (E3 gs n - 1 - a)<|gD b a) (by exact ⟨by (simp only [oN] at *;omega),(lP (by (simp only [oN] at *;omega)) (by (omega))).trans d.2⟩)<|by (simp only [oN] at *;omega)) fun _ _=>Kl 1 47 (gP a)<|Kf 0<|e (a+1) b (by exact ⟨by (simp only [oN] at *;omega),d.2⟩)<|by (simp only [oN] at *;omega)) fun _ _=>M2 (.fsl 0 [0,1,2] 9<|b.map aU) ti (bT (aY 1) (tA aU b (E3 gs n) (by (omega):(b).length=E3 gs n))<|aX Is b)<|Ml 9 (fK (b.map aU) false<|aX Is b)<|Kp 2 Up<|Kp 2 (hB b<|by exact d.2)<|Mp hS<|Kp 3 hF0<|Kp 2 (hF b<|by exact d.2)<|Mp hMi<|Kf 1<|bq<|dB true
theorem WO (day:Int) (p:aN) (gs:List PGaz) (V:TUnit) (F:List PFail) (hn0:0<gs.length) (h8:gs.length≤8) (haw:kP 9 [] (.bool true)) (hw:kP 10 [.ls (gs.map aU), .str p] (.bool true)) (ho:kP 23 [.ls (gs.map aU)] (.bool true))
    (g2:ar (.ofNat gs.length) 0=false) (hc:OrdC day p gs V F) :
    kP 6 [iV day, .str p, .ls (gs.map aU),iV 0] (.bool true):=by
  have hB:=hc.b
  have hF:=hc.f
  have Up:=hc.b gs (.refl _)
  have hF0:=hc.f gs (.refl _)
  have hS:=hc.s
  have hMi:=hc.m
  have l3:(gs.map aU).length=gs.length:=bI ..
  have td : ∀ c:Nat,(Int.ofNat c).tdiv 2=Int.ofNat (c / 2):=fun c=>by simp only [oN];rw [Int.tdiv_eq_ediv_of_nonneg (Int.natCast_nonneg c)];omega
  let q:=List.map aU gs;exact bo Tryz.func6<|Kp 0 haw<|Kp 3 hw<|Kl 8 24 (ln aU gs)<|Kp 3 ho<|K1 5 (.slp q) (bT (hM 4 aU gs fun _=>rfl) (et (oA:0≤(gs.map aU).length) (oA:(gs.map aU).length≤(gs.map aU).length))<|R4 (f:=aU) (l:=gs))<|M4 (.apx q) rt rt (et (by exact yP (by omega):List.map aU gs≠ [])<|fM 4 aU gs fun _=>rfl) (et (aY q) (by exact aA (m:=16) (by first | omega | (simp only [lM,lA];omega)) (by decide) (by decide):small (gs.map aU).length 56=true))<|K1 1 (.slp<|(gs.take 0).map aU) (bT (hM 4 aU gs fun _=>rfl) (et (oA:0≤0) (oA:0≤(gs.map aU).length))<|OY (f:=aU) (l:=gs) (h:=0))<|M2 .app rt (eC (tR 4 true 0 1<|aX Is gs) rt)<|Mg 1<|HU (0:Nat) gs [0,1,2,3,9,10] (fun a b=>([iV day,aw p,aW<|gs.map aU,iV 0,aD 0 0 0 (gs.map aU).length none,nV a],[aZ 4 true 0<|b.map aU])) (fun a b=>a≤gs.length∧b.Perm gs) (fun a _=>gs.length - a) (by exact ⟨bE _, .refl _⟩) fun a b d e=>let f:=List.map aU b;have d:a≤gs.length∧b.Perm gs:=d;have :b.length=gs.length:=d.2.length_eq;have :(Int.ofNat q.length).tdiv (2:Int)=Int.ofNat (q.length / (2:Nat)):=td _;have :(Int.ofNat gs.length).tdiv (2:Int)=Int.ofNat (gs.length / (2:Nat)):=td _;Kl 2 43 (ln aU gs)<|Kl 0 44 (Le.wr (x:=(Int.ofNat gs.length).tdiv 2) ef)<|Ka 0 (Int.ofNat a) ((Int.ofNat gs.length).tdiv 2) (fun _ _=>Kl 5 47 (gP a)<|Kf 0<|e (a+1) b (by exact ⟨by (simp only [oN] at *;omega),d.2⟩)<|by (simp only [oN] at *;omega)) fun _ _=>M2 (.fsl 0 [0,1,2] 9 f) ti (bT (aY 0) (tA aU b q.length (by (omega):(b).length=(gs.map aU).length))<|aX Is b)<|Ml 9 (fK f false<|aX Is b)<|Kp 2 Up<|Kp 2 (hB b<|by exact d.2)<|Mp hS<|Kp 3 hF0<|Kp 2 (hF b<|by exact d.2)<|Mp hMi<|Kf 1<|bq<|dB true
def tV (day:Int) (p:aN) (gs:List PGaz) (x0:Nat × List PGaz):Prop:=x0.1≤gs.length∧x0.2.Perm gs
noncomputable def tK (day:Int) (p:aN) (gs:List PGaz) (x0:Nat × List PGaz):List AV × List AObj:=([iV day,AV.str p,AV.ls (gs.map aU),nV gs.length,AV.slice 0 0 0 ((gs.take gs.length).map aU).length none,nV x0.1], [AObj.row 4 true 0 (x0.2.map aU)])
abbrev E4 (gs:List PGaz):Nat:=((gs.take gs.length).map aU).length
theorem WR (day:Int) (p:aN) (gs:List PGaz) (V:TUnit) (F:List PFail) (hn0:0<gs.length) (h8:gs.length≤8) (haw:kP 9 [] (.bool true)) (hw:kP 10 [.ls (gs.map aU), .str p] (.bool true)) (ho:kP 23 [.ls (gs.map aU)] (.bool true))
    (g1:ar (.ofNat gs.length) 0=false) (g2:ar (.ofNat gs.length) (.ofNat gs.length)=false) (hc:OrdC day p gs V F) :
    kP 6 [iV day, .str p, .ls (gs.map aU),nV gs.length] (.bool true):=by
  have hB:=hc.b
  have hF:=hc.f
  have Up:=hc.b gs (.refl _)
  have hF0:=hc.f gs (.refl _)
  have hS:=hc.s
  have hMi:=hc.m
  have l3:((gs.take gs.length).map aU).length=gs.length:=by rw [lM,xH]
  have l4:E4 gs=gs.length:=l3
  have td : ∀ c:Nat,(Int.ofNat c).tdiv 2=Int.ofNat (c / 2):=fun c=>by simp only [oN];rw [Int.tdiv_eq_ediv_of_nonneg (Int.natCast_nonneg c)];omega
  exact bo Tryz.func6<|Kp 0 haw<|Kp 3 hw<|Kl 8 24 (ln aU gs)<|Kh 2 g2<|Kh 0 g2<|Mp ho<|Mh g2<|Kw 0 g2<|K1 3 (.slp<|(gs.drop gs.length).map aU) (bT (hM 4 aU gs fun _=>rfl) (et (by (simp only [oN,lM,lS] at *;omega):gs.length≤(gs.map aU).length) (oA:(gs.map aU).length≤(gs.map aU).length))<|OU (f:=aU) (l:=gs) (k:=gs.length))<|Mw (.opv (iK [] true) (AHeap.mk 0<|bv (aa []) [] Tr.nil)<|.go 1<|.slp ((gs.take gs.length).map aU)<|.apx ((gs.take gs.length).map aU)<|.go 1<|.loop (Nat × List PGaz) [0,1,2,3,9,10] (tK day p gs) (tV day p gs) (fun a=>gs.length - a.1) (0,List.take gs.length gs) fun a=>.go 2<|.le 43 (nV (gs.take gs.length).length)<|.go 0<|.le 44 (iV<|(Int.ofNat (gs.take gs.length).length).tdiv 2)<|.go 0<|.br (.go 2<|.br (.go 4<|.asl (nV<|(E4 gs) - 1)<|.go 0<|.asl (nV<|(E4 gs) - 1 - a.1)<|.go 2<|.asl (nV<|(E4 gs) - 1)<|.go 0<|.asl (nV<|(E4 gs) - 1 - a.1)<|.rix<|.rld (aU<|gD a.2<|(E4 gs) - 1 - a.1)<|.go 1<|.rix<|.rld (aU<|gD a.2 a.1)<|.rix<|.rst (aU<|gD a.2 a.1) ((a.2.set a.1<|gD a.2<|(E4 gs) - 1 - a.1).map aU)<|.rix<|.rst (aU<|gD (a.2.set a.1<|gD a.2<|(E4 gs) - 1 - a.1)<|(E4 gs) - 1 - a.1) (((a.2.set a.1<|gD a.2<|(E4 gs) - 1 - a.1).set ((E4 gs) - 1 - a.1)<|gD a.2 a.1).map aU)<|.go 1<|.le 47 (nV<|a.1+1)<|.go 0 .fin)<|.go 1<|.le 47 (nV<|a.1+1)<|.go 0 .fin)<|.fsl 0 [0,1,2] 9 (a.2.map aU)<|.le 9 (aW<|a.2.map aU)<|.go 2<|.pure (ay [iV V.act,iV V.item,iV V.n,iV V.kind,aw V.label,aW<|V.head.map aQ,aW<|V.words.map aQ,aW<|V.kids.map aK])<|.go 2<|.pure (ay [iV V.act,iV V.item,iV V.n,iV V.kind,aw V.label,aW<|V.head.map aQ,aW<|V.words.map aQ,aW<|V.kids.map aK])<|.pure (dB true)<|.go 3<|.pure (aW<|F.map cV)<|.go 2<|.pure (aW<|F.map cV)<|.pure (dB true)<|.go 1 .fin)<|Ts rt rt (NJ (f:=aU) (l:=List.drop gs.length gs) (sz:=4) (b:=56) (xs:=[]) (t:=true) (h:=AHeap.mk 0<|bv (aa []) [] Tr.nil) (by (simp only [xG,jC,lM] <;> (omega)):(gs.drop gs.length).length=0)) (bT (hM 4 aU gs fun _=>rfl) (et (oA:0≤gs.length) (by (simp only [oN,lM,lS] at *;omega):gs.length≤(gs.map aU).length))<|OY (f:=aU) (l:=gs) (h:=gs.length)) rt rt (et (by exact yP (by rw [xH];exact hn0):List.map aU (gs.take gs.length)≠ [])<|fM 4 aU (gs.take gs.length) fun _=>rfl) (et (aY<|(gs.take gs.length).map aU) (by exact aA (m:=16) (by omega) (by decide) (by decide):small (E4 gs) 56=true)) (aY<|tK day p gs (0,List.take gs.length gs)) (by exact ⟨bE _,(by (rw [xH];done))⟩:(0:Nat)≤gs.length∧(gs.take gs.length).Perm gs) fun (a:Nat × List PGaz) (b:(tV day p gs) a)=>have b:a.1≤gs.length∧a.2.Perm gs:=b;have :a.2.length=gs.length:=b.2.length_eq;have :(Int.ofNat (E4 gs)).tdiv (2:Int)=Int.ofNat ((E4 gs) / (2:Nat)):=td _;have :(Int.ofNat gs.length).tdiv (2:Int)=Int.ofNat (gs.length / (2:Nat)):=td _;have :(Int.ofNat (gs.take gs.length).length).tdiv (2:Int)=Int.ofNat ((gs.take gs.length).length / (2:Nat)):=td _;have :(gs.take gs.length).length=gs.length:=(by rw [xH]);j4 (ln aU<|List.take gs.length gs) (Le.wr (x:=(Int.ofNat (gs.take gs.length).length).tdiv 2) ef) (fun (d:(ar (Int.ofNat a.1) ((Int.ofNat (gs.take gs.length).length).tdiv 2))=true)=>have :=au d;et (fun (d:(ae ((Int.ofNat gs.length).tmod 2) 1)=true)=>have :=ge d;Qj (BJ (E4 gs)) (bB (x:=Int.ofNat ((E4 gs) - 1) - Int.ofNat a.1) (n:=(E4 gs) - 1 - a.1) ef) (BJ (E4 gs)) (bB (x:=Int.ofNat ((E4 gs) - 1) - Int.ofNat a.1) (n:=(E4 gs) - 1 - a.1) ef) (et (aY 0) (oA:(E4 gs) - 1 - a.1<(E4 gs))) (et (aY 0)<|aM aU (oA:(E4 gs) - 1 - a.1<(a.2).length)) (et (aY 0) (by (simp only [oN,lM,lS] at *;omega):a.1<(E4 gs))) (et (aY 0)<|aM aU (by (simp only [oN,lM,lS] at *;omega):a.1<(a.2).length)) (et (aY 0) (by (simp only [oN,lM,lS] at *;omega):a.1<(E4 gs))) rt (eC (tR 4 true 0 1<|aX Is a.2) rt)<|Kz (bT (aY 0) (aM aU (by (simp only [oN,lM,lS] at *;omega):a.1<(a.2).length))<|g0 (f:=aU) (l:=a.2) (i:=a.1) (w:=gD a.2<|(E4 gs) - 1 - a.1)) (et (aY 0) (oA:(E4 gs) - 1 - a.1<(E4 gs))) rt (eC (tR 4 true 0 1<|aX Is<|a.2.set a.1<|gD a.2<|(E4 gs) - 1 - a.1) rt) (bT (aY 0) (aM aU (by (simp only [oN,lM,lS] at *;omega):(E4 gs) - 1 - a.1<(a.2.set a.1 (gD a.2 ((E4 gs) - 1 - a.1))).length))<|g0 (f:=aU) (l:=a.2.set a.1<|gD a.2<|(E4 gs) - 1 - a.1) (i:=(E4 gs) - 1 - a.1) (w:=gD a.2 a.1)) (gP a.1)<|Nx.mk (I:=tV day p gs) (m:=fun a=>gs.length - a.1) (S:=tK day p gs) (x:=a) (a.1+1,(a.2.set a.1<|gD a.2<|(E4 gs) - 1 - a.1).set ((E4 gs) - 1 - a.1)<|gD a.2 a.1) (by exact ⟨by (simp only [oN] at *;omega),(lP (by (simp only [oN] at *;omega)) (by (omega))).trans b.2⟩:a.1+1≤gs.length∧((a.2.set a.1 (gD a.2 ((E4 gs) - 1 - a.1))).set ((E4 gs) - 1 - a.1) (gD a.2 a.1)).Perm gs) (by (simp only [oN] at *;omega):gs.length - (a.1+1)<gs.length - a.1)) fun (d:(ae ((Int.ofNat gs.length).tmod 2) 1)=false)=>have :=wi d;et (gP a.1)<|Nx.mk (I:=tV day p gs) (m:=fun a=>gs.length - a.1) (S:=tK day p gs) (x:=a) (a.1+1,a.2) (by exact ⟨by (simp only [oN] at *;omega),b.2⟩:a.1+1≤gs.length∧a.2.Perm gs) (by (simp only [oN] at *;omega):gs.length - (a.1+1)<gs.length - a.1)) fun (d:(ar (Int.ofNat a.1) ((Int.ofNat (gs.take gs.length).length).tdiv 2))=false)=>have :=aB d;Tt ti (bT (aY 0) (tA aU a.2 (E4 gs) (by (omega):(a.2).length=(E4 gs)))<|aX Is a.2) (fK (a.2.map aU) false<|aX Is a.2) Up (hB a.2<|by exact b.2) hS hF0 (hF a.2<|by exact b.2) hMi<|bq<|dB true
theorem WS (day:Int) (p:aN) (V:TUnit) (F:List PFail) (haw:kP 9 [] (.bool true)) (hw:kP 10 [.ls (([]:List PGaz).map aU), .str p] (.bool true)) (ho:kP 23 [.ls (([]:List PGaz).map aU)] (.bool true)) (hc:OrdC day p [] V F) :
    kP 6 [iV day, .str p, .ls (([]:List PGaz).map aU),iV 0] (.bool true):=by
  have b0:kP 12 [iV day, .str p, .ls ([]:List AV)] (eU V):=hc.b [] (.refl _)
  have f0:kP 15 [iV day, .str p, .ls ([]:List AV)] (.ls (F.map cV)):=hc.f [] (.refl _)
  have b00:kP 12 [iV day, .str p, .ps [] true] (eU V):=b0.onArgs (.cons (Le.refl _) (.cons (Le.refl _) (.cons (Le.lsp rfl rfl) .nil)))
  have f00:kP 15 [iV day, .str p, .ps [] true] (.ls (F.map cV)):=f0.onArgs (.cons (Le.refl _) (.cons (Le.refl _) (.cons (Le.lsp rfl rfl) .nil)))
  have hS:=hc.s
  have hMi:=hc.m
  let q:= [iV day,aw p,aW [],iV 0,iK [] true,iV 0];exact bo Tryz.func6<|Kp 0 haw<|Kp 3 hw<|Kp 12 ho<|Mg 13<|Wc [0,1,2,3,9,10] (q,[]) True 0 ti fun _ _=>Kp 8 b0<|Kp 2 b00<|Mp hS<|Kp 3 f0<|Kp 2 f00<|Mp hMi<|Kf 1<|bq<|dB true
theorem B6 {n:Int} : ∀ {l:List PAct} {i:Nat} {b:PAct},b∈l→b.number=n→∀ (r:List PAct),py n (l++r) i<Int.ofNat (i+l.length)
  | a::t,i,b,hb,hn,r=>by
    cases q:ae a.number n with
    | true=>rw [pp,IU q];simp only [oN,lC];omega
    | false=>
      rw [pp,PF q]
      rcases fj.1 hb with e | e
      · rw [← e,hn,aT] at q;cases q
      · have:=B6 (i:=i+1) e hn r
        simp only [oN,lC] at *;omega
theorem FR {k:Int} : ∀ {out:List PAct},(∀ b,b∈out→b.number≠k)→gj k (ah out)=none
  | [],_=>rfl
  | c::r,h=>by
    have hc:ae k c.number=false:=by
      cases q:ae k c.number with
      | false=>rfl
      | true=>exact absurd (ge q).symm (h c (fU ..))
    have:=FR (out:=r) fun b hb=>h b (fW _ hb)
    simp only [ah,eW,gj,hc];exact this
theorem J8 (n:Int) : ∀ (out:List Int),qK n out≠ []
  | []=>by simp [qK]
  | x::r=>by simp only [qK];cases ar x n <;> cases ae x n <;> simp
theorem Hg (L:List PAct) : ∀ (r:List PAct) (i:Nat) (out:List Int),out≠ []→Rr L r i out≠ []
  | [],_,_,h=>h
  | a::r,i,out,h=>by
    simp only [Rr]
    cases ae (py a.number L 0) (.ofNat i)
    · exact Hg L r (i+1) _ (J8 _ _)
    · exact Hg L r (i+1) _ h
def UI (l:List PAct):Prop:=(l.map (·.number)).Nodup
theorem JV (L:List PAct) : ∀ (r p:List PAct),L=p++r→UI p→Rr L r p.length [] = []→UI L
  | [],p,h,hd,_=>by rw [h,eX];exact hd
  | a::r,p,h,hd,ht=>by
    simp only [Rr] at ht
    cases q:ae (py a.number L 0) (.ofNat p.length) with
    | false=>rw [q] at ht;exact absurd ht (Hg L r _ _ (J8 _ _))
    | true=>
      rw [q] at ht
      refine JV L r (p++ [a]) (by rw [h,kE];rfl) ?_ (by rw [lA];exact ht)
      unfold UI
      rw [pQ,D9]
      refine ⟨hd,by simp,fun x hx y hy=>?_⟩
      obtain ⟨b,hb,rfl⟩:=jd.1 hx
      simp only [eW,vB,pi] at hy
      intro e
      have z:=B6 (i:=0) hb (e.trans hy) (a::r)
      rw [← h,ge q] at z
      simp only [oN] at z;omega
theorem uD : ∀ (r out:List PAct),UI (out++r)→r.foldl jz out=out++r
  | [],out,_=>(eX _).symm
  | a::r,out,h=>by
    have e:out++a::r=(out++ [a])++r:=by rw [kE];rfl
    have hn : ∀ b,b∈out→b.number≠a.number:=fun b hb=>by
      unfold UI at h
      rw [pQ,D9] at h
      exact h.2.2 _ (jd.2 ⟨b,hb,rfl⟩) _ (by simp)
    rw [lm,jW (by rw [FR hn];rfl),e]
    exact uD r _ (e ▸ h)
theorem Nv {gs M:List PGaz} (hp:M.Perm gs) (ht:Nf (ja gs) = []):gw M=gw gs:=by
  have hd:UI (ja gs):=JV _ _ [] rfl (by unfold UI;simp) ht
  have hp2:(ja M).Perm (ja gs):=hp.flatMap_right _
  have hd2:UI (ja M):=(hp2.map _).nodup_iff.2 hd
  have f1:bQ gs []=ja gs:=by rw [sk];exact uD _ [] hd
  have f2:bQ M []=ja M:=by rw [sk];exact uD _ [] hd2
  refine Eo iX ((mM M).trans (by rw [f1,f2];exact hp2)) (sM iX (bQ M []) [] .nil).2 fun u v hu hv h1 h2=>qx gs [] (fun _ _ h=>by cases h) u v hu hv (by
    rw [← Bool.not_eq_true,oZ] at h1 h2;omega)
theorem zd {gs M:List PGaz} (hp:M.Perm gs) (ht:Nf (ja gs) = []) (day:Int) (p:aN):ml day p M=ml day p gs:=by
  unfold ml qc;rw [Nv hp ht]
theorem G7 : ∀ (gs:List PGaz),(∀ g,g∈gs→g.acts.length≤8)→(ja gs).length≤8 * gs.length
  | [],_=>by simp [ja]
  | g::r,h=>by
    have:=G7 r fun x hx=>h x (fW _ hx)
    have:=h g (fU ..)
    rw [jA,lA,lC];omega
/-- The law of order, whole. -/
theorem Lt (day:Int) (p:aN) (gs:List PGaz) (k:Int) (hf:pU gs) (haw:kP 9 [] (.bool true)):kP 6 [iV day, .str p, .ls (gs.map aU),iV k] (.bool true):=by
  have hw:=Tm gs p hf
  cases hb:MA gs p with
  | false=>rw [hb] at hw;exact VJ day p gs k haw hw
  | true=>
    rw [hb] at hw
    obtain ⟨ok,h8⟩:=Vz hf hb
    cases g1:ar k 0 with
    | true=>exact Sb day p gs k haw hw g1
    | false=>
      cases g2:ar (.ofNat gs.length) k with
      | true=>exact Sd day p gs k haw hw g1 g2
      | false=>
        have hl:=G7 gs fun g hg=>ok.acts g hg
        have ho:=Sg gs (by omega) (by omega)
        cases ht:ae (.ofNat (Nf (ja gs)).length) 0 with
        | false=>rw [ht] at ho;exact Lu day p gs k haw hw ho g1 g2
        | true=>
          rw [ht] at ho
          have ht0:Nf (ja gs) = []:=pt (by have:=ge ht;simp only [oN] at this;omega)
          have hc:OrdC day p gs (KO day p gs) (ed rl (ml day p gs)):=by
            have sub : ∀ M:List PGaz,M.Perm gs→OkG M:=fun M hM=>ok.sub (by have:=hM.length_eq;omega) fun g hg=>hM.mem_iff.1 hg
            refine ⟨fun M hM=>?_,fun M hM=>?_,Oy _ (ok.okB day p),LP _ ?_⟩
            · have z:=(sub M hM).book day p
              unfold KO at z ⊢;rw [zd hM ht0] at z;exact z
            · have z:=(sub M hM).fails day p
              rw [zd hM ht0] at z;exact z
            · have z:=va (ml day p gs) rl;have:=(ok.force day p).1;omega
          have e1:=aB g1
          have e2:=aB g2
          obtain ⟨n,rfl⟩:=Int.eq_ofNat_of_zero_le e1
          have hn:n≤gs.length:=by simp only [oN] at e2;omega
          cases hg:gs with
          | nil=>
            subst hg
            have:n=0:=by simpa using hn
            subst this
            exact WS day p _ _ haw hw ho hc
          | cons w r=>
            have hl0:0<gs.length:=by rw [hg];exact rq _
            rw [← hg]
            rcases fJ n gs.length with h | h
            · cases n with
              | zero=>exact WO day p gs _ _ hl0 h8 haw hw ho g2 hc
              | succ m=>exact VK day p gs (m+1) _ _ h (rq m) h8 haw hw ho g1 g2 hc
            · have:n=gs.length:=by omega
              subst this
              exact WR day p gs _ _ hl0 h8 haw hw ho g1 g2 hc
end Go.Proofs.YtempcdhknnjebaaGreatDoor
