/- Functions walked: what each of them answers, for the law of uniqueness: part 8. Conditions: those that each theorem names. -/
import Derived.Test.YtidehekfpcgelaaGreatDoorH7
namespace Go.Proofs.YtidehekfpcgelaaGreatDoor
open Go Go.Ev
noncomputable def bE(w:PWord):AV:=.agg [iV w.act,iV w.item,iV w.at_]
theorem mR(w:PWord):(bE w).top=0:=rfl
theorem DA:∀{l:List TUnit}{k:TUnit},k∈l→(dM k).length≤(fj l).length
  | x::r,k,h=>by
    rw[dU,lA]
    rcases ed.1 h with rfl|h
    · omega
    · have:=DA h;omega
theorem Td{u k:TUnit}(h:k∈u.kids):(dM k).length≤(dM u).length:=by
  have:=DA h
  rw[vb u,lA];omega
theorem Q9:∀(u:TUnit),nU u≤2^20→(dM u).length≤2^20→kP 22 [eU u] (.ls ((dM u).map bE)):=by
  refine TUnit.ind fun u ih hu hn=>?_
  have hq:=vb u
  have hkl:=bz u
  have hwl:u.head.length+u.words.length≤2^20:=by
    have z:=congrArg List.length hq
    unfold fc at z
    rw[lA,lA]at z;omega
  have ihk:∀k,k∈u.kids→kP 22 [eU k] (.ls ((dM k).map bE)):=fun k hk=>ih k hk (bL (mj (gI hk)) hu) (bL (Td hk) hn)
  have rr0 b' (h:((dM u).map bE)=b':=by first|rfl|(rw[←hj2];rfl)|(rw[←hj2.2,lg,dO])|(rw[←hj3];rfl)|(rw[←hj3.2,lg,dO])|(rw[←hj4];rfl)|(rw[←hj4.2,lg,dO])|(rw[←hj5];rfl)|(rw[←hj5.2,lg,dO])|(simp_all;done)):=h;exact bF Tryz.func22<|Mg 3<|kZ Nat Nat (List PWord) aQ u.head [1,3,4] (fun a _=>([bK 0 0 0 0,ab,nV a],[aZ 8 false 0 [aw [iV u.act,iV u.item,iV u.n,iV u.kind,aj u.label,aW<|u.head.map aQ,aW<|u.words.map aQ,aW<|u.kids.map aY]]])) (fun a _ b c d=>([bK 0 0 0 0,aN 1 b 0 c none,nV a],[aZ 8 false 0 [aw [iV u.act,iV u.item,iV u.n,iV u.kind,aj u.label,aW<|u.head.map aQ,aW<|u.words.map aQ,aW<|u.kids.map aY]],aZ 3 true b<|d.map bE])) (fun a=>a++(u.words++fj u.kids)=dM u) (fun a _ b c=>b=c.length∧c++(a++(u.words++fj u.kids))=dM u) (by(rw[hq];simp[fc];done)) (fun _ _ _ _ _ a b=>Kl 3 10 (ln aQ u.head)<|Kh 0 a<|Mg 0<|kZ Nat Nat (List PWord) aQ u.words [1,3,5] (fun a _=>([bK 0 0 0 0,ab,nV a],[aZ 8 false 0 [aw [iV u.act,iV u.item,iV u.n,iV u.kind,aj u.label,aW<|u.head.map aQ,aW<|u.words.map aQ,aW<|u.kids.map aY]]])) (fun a _ b c d=>([bK 0 0 0 0,aN 1 b 0 c none,nV a],[aZ 8 false 0 [aw [iV u.act,iV u.item,iV u.n,iV u.kind,aj u.label,aW<|u.head.map aQ,aW<|u.words.map aQ,aW<|u.kids.map aY]],aZ 3 true b<|d.map bE])) (fun a=>a++fj u.kids=dM u) (fun a _ b c=>b=c.length∧c++(a++fj u.kids)=dM u) (by(simpa using b)) (fun _ _ _ _ _ a b=>Kl 3 26 (ln aQ u.words)<|Kh 0 a<|Mg 0<|kZ Nat Nat (List PWord) aY u.kids [1,3,6] (fun a _=>([bK 0 0 0 0,ab,nV a],[aZ 8 false 0 [aw [iV u.act,iV u.item,iV u.n,iV u.kind,aj u.label,aW<|u.head.map aQ,aW<|u.words.map aQ,aW<|u.kids.map aY]]])) (fun a _ b c d=>([bK 0 0 0 0,aN 1 b 0 c none,nV a],[aZ 8 false 0 [aw [iV u.act,iV u.item,iV u.n,iV u.kind,aj u.label,aW<|u.head.map aQ,aW<|u.words.map aQ,aW<|u.kids.map aY]],aZ 3 true b<|d.map bE])) (fun a=>fj a=dM u) (fun a _ b c=>b=c.length∧c++fj a=dM u) (by(simpa using b)) (fun _ _ _ _ _ a hj2=>Kl 3 42 (ln aY u.kids)<|Kh 0 a<|Kf 1 (Le.lsn<|rr0 []:Le _ (ab))) (fun a _ b c d e f g i j _ l _=>have l:=(l).trans<|congrArg some<|aD d;have hj2:=cX (J:=fun a _=>fj a=dM u) (a:=()) i c;Kl 3 42 (ln aY u.kids)<|Kt 0 j<|Kx 3 l<|Kp 0 (ihk d<|by exact aG b i)<|Mc (dM d) (fun b=>Ml 52 (dN<|by rw[b];rfl:Le (aW []) (aW ((dM d).map bE)))<|Kl 3 45 (dm a)<|Kf 0<|f<|by(rw[←hj2,dU];simp only[*,qW];done)) fun b c f=>Ml 52 (dN<|by rw[f]:Le (aW ((b::c).map bE)) (aW ((dM d).map bE)))<|M2 .apl (et (by exact jd _ _:List.map bE (b::c)≠[])<|fM 3 bE (b::c) fun _=>rfl) (by(have z:=congrArg List.length hj2;rw[dU,lA]at z;refine au (m:=2^20) ?_ (by decide) (by decide);simp only[lM, *]at *;omega):small ((b::c).map bE).length 24=true)<|Kl 2 45 (dm a)<|Kf 0<|g 0 ((b::c).map bE).length (b::c)<|by exact⟨by simp,by rw[←hj2,dU];simp only[*]⟩) (fun _ _ a b c _ _ _ d hj2=>Kl 3 42 (ln aY u.kids)<|Kh 0 d<|Mg 1<|M2 (.fsl 0 [] 2<|c.map bE) ti (ct (aK a) (tA bE c b (oA:(c).length=b))<|aX mR c)<|Ml 2 (fG (c.map bE) false<|aX mR c)<|Mf<|cJ<|rr0<|c.map bE) fun a _ b c d e f g i _ j l n _ o _=>have o:=(o).trans<|congrArg some<|aD g;have hj2:=cX (J:=fun a b=>b.2.1=b.2.2.length∧b.2.2++fj a=dM u) (a:=(b,c,d)) l f;Kl 3 42 (ln aY u.kids)<|Kt 0 n<|Kx 3 o<|Kp 0 (ihk g<|by exact aG e l)<|Mc (dM g) (fun e=>Ml 52 (dN<|by rw[e];rfl:Le (aW []) (aW ((dM g).map bE)))<|Kl 3 45 (dm a)<|Kf 0<|j b c d<|by exact⟨hj2.1,by rw[←hj2.2,dU];simp only[*,qW]⟩) fun e f l=>Ml 52 (dN<|by rw[l]:Le (aW ((e::f).map bE)) (aW ((dM g).map bE)))<|M2 .apl (et (by exact jd _ _:List.map bE (e::f)≠[])<|fM 3 bE (e::f) fun _=>rfl) (ct (aK b) (by(simp_all;done):c=(d.map bE).length) (by(have z:=congrArg List.length hj2.2;have z2:=hj2.1;rw[dU,lA,lA]at z;refine au (m:=2^20) ?_ (by decide) (by decide);simp only[lM, *]at *;omega):small (c+((e::f).map bE).length) 24=true))<|M1 (.obj 1<|aZ 3 true (b+1)<|(d++e::f).map bE) (congrArg (aZ 3 true<|b+1)<|cp (f:=bE) (l:=d) (ws:=e::f))<|Kl 2 45 (dm a)<|Kf 0<|j (b+1) (c+((e::f).map bE).length) (d++e::f)<|by exact⟨by(have:=hj2.1;simp only[lA,lM,lC]at *;omega),by rw[←hj2.2,dU,ia];simp only[*]⟩) (fun a _ _ _ b c _ d _ e _ f g=>Kl 3 26 (ln aQ u.words)<|Kt 0 e<|Kx 3 f<|Kl 6 29 (dm a)<|Kf 0<|d 0 1 [b]<|by(simpa using g)) (fun _ _ a b c _ _ _ d e=>Kl 3 26 (ln aQ u.words)<|Kh 0 d<|Mg 0<|PV aY u.kids a b c [1,3,6] (fun a _ b c d=>([bK 0 0 0 0,aN 1 b 0 c none,nV a],[aZ 8 false 0 [aw [iV u.act,iV u.item,iV u.n,iV u.kind,aj u.label,aW<|u.head.map aQ,aW<|u.words.map aQ,aW<|u.kids.map aY]],aZ 3 true b<|d.map bE])) (fun a _ b c=>b=c.length∧c++fj a=dM u) (by(simpa using e)) (fun _ _ a b c _ _ _ d hj2=>Kl 3 42 (ln aY u.kids)<|Kh 0 d<|Mg 1<|M2 (.fsl 0 [] 2<|c.map bE) ti (ct (aK a) (tA bE c b (oA:(c).length=b))<|aX mR c)<|Ml 2 (fG (c.map bE) false<|aX mR c)<|Mf<|cJ<|rr0<|c.map bE) fun a _ b c d e f g i j l n _ o _=>have o:=(o).trans<|congrArg some<|aD g;have hj2:=cX (J:=fun a b=>b.2.1=b.2.2.length∧b.2.2++fj a=dM u) (a:=(b,c,d)) l f;Kl 3 42 (ln aY u.kids)<|Kt 0 n<|Kx 3 o<|Kp 0 (ihk g<|by exact aG e l)<|Mc (dM g) (fun e=>Ml 52 (dN<|by rw[e];rfl:Le (aW []) (aW ((dM g).map bE)))<|Kl 3 45 (dm a)<|Kf 0<|j b c d<|by exact⟨hj2.1,by rw[←hj2.2,dU];simp only[*,qW]⟩) fun e f l=>Ml 52 (dN<|by rw[l]:Le (aW ((e::f).map bE)) (aW ((dM g).map bE)))<|M2 .apl (et (by exact jd _ _:List.map bE (e::f)≠[])<|fM 3 bE (e::f) fun _=>rfl) (ct (aK b) (by(simp_all;done):c=(d.map bE).length) (by(have z:=congrArg List.length hj2.2;have z2:=hj2.1;rw[dU,lA,lA]at z;refine au (m:=2^20) ?_ (by decide) (by decide);simp only[lM, *]at *;omega):small (c+((e::f).map bE).length) 24=true))<|M1 (.obj 1<|aZ 3 true (b+1)<|(d++e::f).map bE) (congrArg (aZ 3 true<|b+1)<|cp (f:=bE) (l:=d) (ws:=e::f))<|Kl 2 45 (dm a)<|Kf 0<|j (b+1) (c+((e::f).map bE).length) (d++e::f)<|by exact⟨by(have:=hj2.1;simp only[lA,lM,lC]at *;omega),by rw[←hj2.2,dU,ia];simp only[*]⟩) fun a _ b c d _ _ e f _ g _ i _ j l=>Kl 3 26 (ln aQ u.words)<|Kt 0 i<|Kx 3 j<|K1 2 .app (ct (aK b) (by(simp_all;done):c=(d.map bE).length) (by(have z:=congrArg List.length l.2;have z2:=l.1;simp only[lA,lC]at z;refine au (m:=2^20) ?_ (by decide) (by decide);omega):small (c+1) 24=true))<|M1 (.obj 1<|aZ 3 true (b+1)<|(d++[e]).map bE) (congrArg (aZ 3 true<|b+1)<|cp (f:=bE) (l:=d) (ws:=[e]))<|Kl 2 29 (dm a)<|Kf 0<|g (b+1) (c+1) (d++[e])<|by(simpa using l)) (fun a _ _ _ b c _ d _ e _ f g=>Kl 3 10 (ln aQ u.head)<|Kt 0 e<|Kx 3 f<|Kl 6 13 (dm a)<|Kf 0<|d 0 1 [b]<|by(simpa using g)) (fun _ _ a b c _ _ _ d e=>Kl 3 10 (ln aQ u.head)<|Kh 0 d<|Mg 0<|PV aQ u.words a b c [1,3,5] (fun a _ b c d=>([bK 0 0 0 0,aN 1 b 0 c none,nV a],[aZ 8 false 0 [aw [iV u.act,iV u.item,iV u.n,iV u.kind,aj u.label,aW<|u.head.map aQ,aW<|u.words.map aQ,aW<|u.kids.map aY]],aZ 3 true b<|d.map bE])) (fun a _ b c=>b=c.length∧c++(a++fj u.kids)=dM u) (by(simpa using e)) (fun _ _ a b c _ _ _ d e=>Kl 3 26 (ln aQ u.words)<|Kh 0 d<|Mg 0<|PV aY u.kids a b c [1,3,6] (fun a _ b c d=>([bK 0 0 0 0,aN 1 b 0 c none,nV a],[aZ 8 false 0 [aw [iV u.act,iV u.item,iV u.n,iV u.kind,aj u.label,aW<|u.head.map aQ,aW<|u.words.map aQ,aW<|u.kids.map aY]],aZ 3 true b<|d.map bE])) (fun a _ b c=>b=c.length∧c++fj a=dM u) (by(simpa using e)) (fun _ _ a b c _ _ _ d hj2=>Kl 3 42 (ln aY u.kids)<|Kh 0 d<|Mg 1<|M2 (.fsl 0 [] 2<|c.map bE) ti (ct (aK a) (tA bE c b (oA:(c).length=b))<|aX mR c)<|Ml 2 (fG (c.map bE) false<|aX mR c)<|Mf<|cJ<|rr0<|c.map bE) fun a _ b c d e f g i j l n _ o _=>have o:=(o).trans<|congrArg some<|aD g;have hj2:=cX (J:=fun a b=>b.2.1=b.2.2.length∧b.2.2++fj a=dM u) (a:=(b,c,d)) l f;Kl 3 42 (ln aY u.kids)<|Kt 0 n<|Kx 3 o<|Kp 0 (ihk g<|by exact aG e l)<|Mc (dM g) (fun e=>Ml 52 (dN<|by rw[e];rfl:Le (aW []) (aW ((dM g).map bE)))<|Kl 3 45 (dm a)<|Kf 0<|j b c d<|by exact⟨hj2.1,by rw[←hj2.2,dU];simp only[*,qW]⟩) fun e f l=>Ml 52 (dN<|by rw[l]:Le (aW ((e::f).map bE)) (aW ((dM g).map bE)))<|M2 .apl (et (by exact jd _ _:List.map bE (e::f)≠[])<|fM 3 bE (e::f) fun _=>rfl) (ct (aK b) (by(simp_all;done):c=(d.map bE).length) (by(have z:=congrArg List.length hj2.2;have z2:=hj2.1;rw[dU,lA,lA]at z;refine au (m:=2^20) ?_ (by decide) (by decide);simp only[lM, *]at *;omega):small (c+((e::f).map bE).length) 24=true))<|M1 (.obj 1<|aZ 3 true (b+1)<|(d++e::f).map bE) (congrArg (aZ 3 true<|b+1)<|cp (f:=bE) (l:=d) (ws:=e::f))<|Kl 2 45 (dm a)<|Kf 0<|j (b+1) (c+((e::f).map bE).length) (d++e::f)<|by exact⟨by(have:=hj2.1;simp only[lA,lM,lC]at *;omega),by rw[←hj2.2,dU,ia];simp only[*]⟩) fun a _ b c d _ _ e f g _ i _ j l=>Kl 3 26 (ln aQ u.words)<|Kt 0 i<|Kx 3 j<|K1 2 .app (ct (aK b) (by(simp_all;done):c=(d.map bE).length) (by(have z:=congrArg List.length l.2;have z2:=l.1;simp only[lA,lC]at z;refine au (m:=2^20) ?_ (by decide) (by decide);omega):small (c+1) 24=true))<|M1 (.obj 1<|aZ 3 true (b+1)<|(d++[e]).map bE) (congrArg (aZ 3 true<|b+1)<|cp (f:=bE) (l:=d) (ws:=[e]))<|Kl 2 29 (dm a)<|Kf 0<|g (b+1) (c+1) (d++[e])<|by(simpa using l)) fun a _ b c d _ _ e f _ g _ i _ j l=>Kl 3 10 (ln aQ u.head)<|Kt 0 i<|Kx 3 j<|K1 2 .app (ct (aK b) (by(simp_all;done):c=(d.map bE).length) (by(have z:=congrArg List.length l.2;have z2:=l.1;simp only[lA,lC]at z;refine au (m:=2^20) ?_ (by decide) (by decide);omega):small (c+1) 24=true))<|M1 (.obj 1<|aZ 3 true (b+1)<|(d++[e]).map bE) (congrArg (aZ 3 true<|b+1)<|cp (f:=bE) (l:=d) (ws:=[e]))<|Kl 2 13 (dm a)<|Kf 0<|g (b+1) (c+1) (d++[e])<|by(simpa using l)

def Kz(u:TUnit)(x0:Nat×List TUnit×Unit):Prop:=(u.kids).drop x0.1=x0.2.1∧ah u::bx u.kids=ah u::bx x0.2.1
noncomputable def Be(u:TUnit)(x0:Nat×List TUnit×Unit):List AV×List AObj:=([AV.ptr 0 0 0 0,AV.ps [AV.agg [iV (ah u).a,iV (ah u).i,iV (ah u).n]] true,nV x0.1],[AObj.row 8 false 0 [AV.agg [iV u.act,iV u.item,iV u.n,iV u.kind,AV.str u.label,AV.ls (u.head.map aQ),AV.ls (u.words.map aQ),AV.ls (u.kids.map aY)]]])
def Kq(u:TUnit)(x0:Nat×List TUnit×Nat×Nat×List PId):Prop:=(u.kids).drop x0.1=x0.2.1∧x0.2.2.2.1=x0.2.2.2.2.length∧ah u::bx u.kids=x0.2.2.2.2++bx x0.2.1
noncomputable def KU(u:TUnit)(x0:Nat×List TUnit×Nat×Nat×List PId):List AV×List AObj:=([AV.ptr 0 0 0 0,AV.slice 1 x0.2.2.1 0 x0.2.2.2.1 none,nV x0.1],[AObj.row 8 false 0 [AV.agg [iV u.act,iV u.item,iV u.n,iV u.kind,AV.str u.label,AV.ls (u.head.map aQ),AV.ls (u.words.map aQ),AV.ls (u.kids.map aY)]],AObj.row 3 true x0.2.2.1 (x0.2.2.2.2.map aJ)])
theorem M7:∀(u:TUnit),nU u≤2^20→kP 19 [eU u] (.ls ((ah u::bx u.kids).map aJ)):=by
  refine TUnit.ind fun u ih hn=>?_
  have hkl:=bz u
  have ihk:∀k,k∈u.kids→kP 19 [eU k] (.ls ((ah k::bx k.kids).map aJ)):=fun k hk=>ih k hk (bL (mj (gI hk)) hn)
  have hlen:(ah u::bx u.kids).length≤2^20:=by rw[←gQ,←jE];omega
  have rr0:∀b',(h:((ah u::bx u.kids).map aJ)=b':=by first|rfl|exact aX AP _|(rw[hj0,lk];rfl)|(rw[hj0.2,lk,dO];first|done|rfl))→((ah u::bx u.kids).map aJ)=b':=(fun _ h=>h);let q:=[aw [iV (ah u).a,iV (ah u).i,iV (ah u).n]];exact bF Tryz.func19 (Mg 6 (MM (Nat×List TUnit×Unit) (Nat×List TUnit×Nat×Nat×List PId) [1,3,4] (Be u) (KU u) (Kz u) (Kq u) (fun x=>x.2.1.length) (fun x=>x.2.1.length) (.inl (0,u.kids,())) (aK ((Be u) (0,u.kids,()))) (et (rfl:List.drop 0 (u.kids)=u.kids) (by rfl:(ah u::bx u.kids=ah u::bx u.kids))) (fun x0 hx0 nx0=>Mc x0.2.1 (fun hr0=>have lt0:=fg hx0.1 hr0;(have hj0:=iX (J:=fun r x=>ah u::bx u.kids=ah u::bx r) (a:=x0.2.2) hr0 hx0.2;(Kl 3 11 (Le.len (f:=aY) (l:=u.kids)) (Kh 0 lt0 (Kf 1 ((Le.lsp (rr0 (q)) (by rfl)):Le _ (kM q true))))))) (fun w0 r0 hr0=>have lt0:=fR hx0.1 hr0;(have glt0:=ae lt0;(have nt0:=(fe (enc:=aY) hx0.1 hr0).trans (congrArg some (aD w0));(have hj0:=cX (J:=fun r x=>ah u::bx u.kids=ah u::bx r) (a:=x0.2.2) hr0 hx0.2;(have q0:(bx (w0::r0)).length=(ah w0::bx w0.kids).length+(bx r0).length:=(by rw[dC,gQ,lA]);(Kl 3 11 (Le.len (f:=aY) (l:=u.kids)) (Kt 0 lt0 (Kx 3 nt0 (Kp 0 (ihk w0 (by exact aG hx0.1 hr0)) (M2 .apl (et (by simp_all:List.map aJ (ah w0::bx w0.kids)≠[]) (fT (sz:=3) (f:=aJ) (fun _=>by rfl) (ah w0::bx w0.kids))) (et (by(have z:=congrArg List.length hj0;simp only[lM,lC,lN]at *;refine au (m:=2^21) ?_ ?_ ?_<;>omega):small (([AV.agg [iV (ah u).a,iV (ah u).i,iV (ah u).n]]).length+((ah w0::bx w0.kids).map aJ).length) 24=true) rt) (M1 (.obj 1 (aZ 3 true 0 (([ah u]++ah w0::bx w0.kids).map aJ))) (congrArg (aZ 3 true 0) (by rfl:q++List.map aJ (ah w0::bx w0.kids)=List.map aJ ([ah u]++ah w0::bx w0.kids))) (Kl 2 14 (Le.wr (x:=Int.ofNat x0.1+1) eB) (Kf 0 (nx0 (.inr (x0.1+1,r0,(0,(q++List.map aJ (ah w0::bx w0.kids)).length,[ah u]++ah w0::bx w0.kids))) (et (bh hx0.1 hr0) (by exact⟨by simp,by rw[hj0,dC,gQ];rfl⟩:(([AV.agg [iV (ah u).a,iV (ah u).i,iV (ah u).n]]++List.map aJ (ah w0::bx w0.kids)).length=([ah u]++ah w0::bx w0.kids).length∧ah u::bx u.kids=[ah u]++ah w0::bx w0.kids++bx r0))) (eA hr0)))))))))))))))) (fun x0 hx0 nx0=>let q1:=List.map aJ x0.2.2.2.2;Mc x0.2.1 (fun hr0=>have lt0:=fg hx0.1 hr0;(have hj0:=iX (J:=fun r x=>x.2.1=x.2.2.length∧ah u::bx u.kids=x.2.2++bx r) (a:=x0.2.2) hr0 hx0.2;(Kl 3 11 (Le.len (f:=aY) (l:=u.kids)) (Kh 0 lt0 (Mg 1 (M2 (.fsl 0 [] 2 q1) ti (ct (aK (x0.2.2.1)) (yU (f:=aJ) (l:=x0.2.2.2.2) (n:=x0.2.2.2.1) (by omega:(x0.2.2.2.2).length=x0.2.2.2.1)) (aX AP (x0.2.2.2.2))) (Ml 2 (fG q1 (false) (aX AP (x0.2.2.2.2))) (Mf (cJ (rr0 q1)))))))))) (fun w0 r0 hr0=>have lt0:=fR hx0.1 hr0;(have glt0:=ae lt0;(have nt0:=(fe (enc:=aY) hx0.1 hr0).trans (congrArg some (aD w0));(have hj0:=cX (J:=fun r x=>x.2.1=x.2.2.length∧ah u::bx u.kids=x.2.2++bx r) (a:=x0.2.2) hr0 hx0.2;(have q0:(bx (w0::r0)).length=(ah w0::bx w0.kids).length+(bx r0).length:=(by rw[dC,gQ,lA]);(Kl 3 11 (Le.len (f:=aY) (l:=u.kids)) (Kt 0 lt0 (Kx 3 nt0 (Kp 0 (ihk w0 (by exact aG hx0.1 hr0)) (M2 .apl (et (by simp_all:List.map aJ (ah w0::bx w0.kids)≠[]) (fT (sz:=3) (f:=aJ) (fun _=>by rfl) (ah w0::bx w0.kids))) (ct (aK (x0.2.2.1)) (by simp_all:x0.2.2.2.1=(x0.2.2.2.2.map aJ).length) (by(have z:=congrArg List.length hj0.2;have z2:=hj0.1;simp only[lA,lM,lC,lN]at *;refine au (m:=2^21) ?_ ?_ ?_<;>omega):small (x0.2.2.2.1+((ah w0::bx w0.kids).map aJ).length) 24=true)) (M1 (.obj 1 (aZ 3 true (x0.2.2.1+1) ((x0.2.2.2.2++ah w0::bx w0.kids).map aJ))) (congrArg (aZ 3 true (x0.2.2.1+1)) (cp (f:=aJ) (l:=x0.2.2.2.2) (ws:=ah w0::bx w0.kids))) (Kl 2 14 (Le.wr (x:=Int.ofNat x0.1+1) eB) (Kf 0 (nx0 (.inr (x0.1+1,r0,(x0.2.2.1+1,x0.2.2.2.1+((ah w0::bx w0.kids).map aJ).length,x0.2.2.2.2++ah w0::bx w0.kids))) (et (bh hx0.1 hr0) (by grind[dC,gQ]:(x0.2.2.2.1+((ah w0::bx w0.kids).map aJ).length=(x0.2.2.2.2++ah w0::bx w0.kids).length∧ah u::bx u.kids=x0.2.2.2.2++ah w0::bx w0.kids++bx r0))) (eA hr0))))))))))))))))))
theorem YE{S T:Int→Int→Prop}:vg S T qh:=fun x hx=>by
  have e:x=qh:=by simpa[qh,bW,dQ]using hx
  subst e
  exact⟨(fun w hw=>by cases hw),.inl rfl⟩
theorem H4(gs:List PGaz):(nE gs).Pairwise XY:=List.pairwise_map.2 ((xE _ (Wn gs)).imp fun{d e} h=>by
  have h1:=JI (ar (fJ gs) []) d
  have h2:=JI (ar (fJ gs) []) e
  unfold XY at *;omega)
theorem H5{gs:List PGaz}{d:PDeed}(h:d∈nE gs):∃a,a∈fJ gs∧a.number=d.act∧a.day=d.day:=by
  obtain⟨o,ho,rfl⟩:=fE.1 h
  obtain⟨a,ha,hoa⟩:=List.mem_flatMap.1 ho
  obtain⟨q1,q2,_⟩:=(nD a _ 0).2 o hoa
  obtain⟨p1,_,p3⟩:=JI (ar (fJ gs) []) o
  exact⟨a,ha,by omega,by omega⟩
theorem SE{gs:List PGaz}{d e:PDeed}(hd:d∈nE gs)(he:e∈nE gs)(h1:e.act=d.act)(h2:e.item=d.item):e=d:=by
  obtain⟨i,hi,e1⟩:=sd hd
  obtain⟨j,hj,e2⟩:=sd he
  obtain⟨a,a1,a2,a3⟩:=H5 hd
  obtain⟨b,b1,b2,b3⟩:=H5 he
  have hab:=O7 a1 b1 (by omega)
  rw[hab]at a3
  have hp:=CQ.1 (H4 gs)
  rcases Nat.lt_trichotomy i j with h|h|h
  · have:=hp i j hi hj h;rw[e1,e2]at this;unfold XY at this;omega
  · subst h;rw[←e1,←e2]
  · have:=hp j i hj hi h;rw[e1,e2]at this;unfold XY at this;omega
def Rx(s:aE)(x0:Nat):Prop:=x0≤List.length s∧∀(j:Nat),j<x0→gZ (gD s j)=true
noncomputable def GP(s:aE)(x0:Nat):List AV×List AObj:=([AV.str s,nV x0],[])
theorem VY(s:aE)(hs:s.length≤2^39):kP 108 [.str s] (nV (da gZ s)):=by
  have rr0:∀b',(h:(Int.ofNat (da gZ s))=b':=by first|(rw[EW hx0.2 hx0.1 (fun h=>absurd h (by(first|omega|(simp only[oN]at *;omega))))])|(rw[EW hx0.2 hx0.1 (fun _=>JA (by assumption))])|(rw[EW hx0.2 hx0.1 (fun _=>EC (by assumption))]))→(Int.ofNat (da gZ s))=b':=(fun _ h=>h);exact bF Tryz.func108 (Mg 1 (ML (Nat) [0,3] (GP s) (Rx s) (fun n=>List.length s-n) (0) (aK ((GP s) (0))) (by simp_all:(0:Nat)≤List.length s∧∀(j:Nat),j<(0:Nat)→gZ (gD s j)=true) (fun x0 hx0 nx0=>have hx0:x0≤List.length s∧∀(j:Nat),j<x0→gZ (gD s j)=true:=hx0;(Kb 4 (ao (Int.ofNat x0) (Int.ofNat (List.length s))) (fun h1=>have gh1:=ae h1;(Kt 0 h1 (Kt 0 h1 (M1 (.chr (gD s x0)) (mc (by simp_all:x0<(s).length)) (Mt h1 (K1 0 (.pk true) h1 (Kb 0 (az (ao (Int.ofNat (gD s x0).toNat) 48)) (fun z=>have h2:(ao (Int.ofNat (gD s x0).toNat) 48)=false:=(lH z);have gh2:=af h2;(Kt 0 (cA h2) (Kt 0 (cA h2) (M1 (.chr (gD s x0)) (mc (by simp_all:x0<(s).length)) (Mt (cA h2) (K1 0 (.pk true) (cA h2) (Mn (ao 57 (Int.ofNat (gD s x0).toNat)) (fun h3=>have gh3:=af h3;(Kl 1 21 (bA (x:=Int.ofNat x0+(1:Int)) (n:=x0+(1:Nat)) eB) (Kf 0 (nx0 (x0+1) (by exact⟨by grind,Sn hx0.2 (Ju (by omega) (by omega))⟩:x0+(1:Nat)≤List.length s∧∀(j:Nat),j<x0+(1:Nat)→gZ (gD s j)=true) (by grind:List.length s-(x0+(1:Nat))<List.length s-x0))))) (fun h3=>have gh3:=ae h3;(Kf 1 (Le.int (k:=.i64) (rr0 (Int.ofNat x0)))))))))))) (fun z=>have h2:(ao (Int.ofNat (gD s x0).toNat) 48)=true:=(kf z);have gh2:=ae h2;(Mh (cw h2) (Mh (cw h2) (Mh (cw h2) (M1 (.pk false) (cw h2) (Kf 2 (Le.int (k:=.i64) (rr0 (Int.ofNat x0)))))))))))))))) (fun h1=>have gh1:=af h1;(Mh h1 (Mh h1 (Mh h1 (M1 (.pk false) h1 (Kf 4 (Le.int (k:=.i64) (rr0 (Int.ofNat x0)))))))))))))
def RW(s:aE)(n:Nat)(x0:Nat):Prop:=n≤x0∧x0≤List.length s∧∀(j:Nat),n≤j→j<x0→BT (gD s j)=true
noncomputable def GM(s:aE)(n:Nat)(x0:Nat):List AV×List AObj:=([AV.str s,nV x0],[])
theorem VV(s:aE)(hs:s.length≤2^39):kP 62 [.str s] (.bool (fS s)):=by
  have hd:=VY s hs
  have hl:=uU (p:=gZ) (s:=s)
  rw[OJ]
  generalize da gZ s=n at *
  have rr0:∀b',(h:(az (ao (Int.ofNat n) 1)&&(az (ao 4 (Int.ofNat n))&&(az (ak (Int.ofNat (gD s 0).toNat) 48)&&(az (ao 3 (Int.ofNat (List.length s-n)))&&(s.drop n).all BT))))=b':=by first|(simp only[aS,az,bS, *];done)|(simp only[aS,az,bS, *];rfl)|(rw[PD (fun j h1 h2=>hx0.2.2 j h1 (by(first|omega|(simp only[oN]at *;omega))))];simp only[aS,az,bS, *])|(rw[K4 hx0.1 (by(first|omega|(simp only[oN]at *;omega))) (JA (by assumption))];simp only[aS,az,bS, *])|(rw[K4 hx0.1 (by(first|omega|(simp only[oN]at *;omega))) (EC (by assumption))];simp only[aS,az,bS, *]))→(az (ao (Int.ofNat n) 1)&&(az (ao 4 (Int.ofNat n))&&(az (ak (Int.ofNat (gD s 0).toNat) 48)&&(az (ao 3 (Int.ofNat (List.length s-n)))&&(s.drop n).all BT))))=b':=(fun _ h=>h);exact bF Tryz.func62 (Kp 1 (hd) (Kb 3 (ao (Int.ofNat n) 1) (fun h0=>have gh0:=ae h0;(Mt h0 (M1 (.pk true) h0 (Ky 5 (rr0 false))))) (fun h0=>have gh0:=af h0;(Kh 0 h0 (K1 0 (.pk false) h0 (Kb 0 (ao 4 (Int.ofNat n)) (fun h1=>have gh1:=ae h1;(Mt h1 (Mt h1 (M1 (.pk true) h1 (Ky 3 (rr0 false)))))) (fun h1=>have gh1:=af h1;(Kh 0 h1 (M1 (.chr (gD s 0)) (mc (by grind:0<(s).length)) (Mh h1 (K1 0 (.pk false) h1 (Kb 0 (ak (Int.ofNat (gD s 0).toNat) 48) (fun h2=>have gh2:=iI h2;(Mt h2 (Mt h2 (Mt h2 (Mt h2 (M1 (.pk true) h2 (Ky 1 (rr0 false)))))))) (fun h2=>have gh2:=AH h2;(Kh 0 h2 (Kh 0 h2 (Kh 0 h2 (Kl 0 22 (bA (x:=Int.ofNat (List.length s)-Int.ofNat n) (n:=List.length s-n) eB) (Mh h2 (K1 0 (.pk false) h2 (Mb (ao 3 (Int.ofNat (List.length s-n))) (fun h3=>have gh3:=ae h3;(Ky 0 (rr0 false))) (fun h3=>have gh3:=af h3;(Mg 1 (ML (Nat) [0,4] (GM s n) (RW s n) (fun i=>List.length s-i) (n) (aK ((GM s n) (n))) (by grind:n≤n∧n≤List.length s∧∀(j:Nat),n≤j→j<n→BT (gD s j)=true) (fun x0 hx0 nx0=>have hx0:n≤x0∧x0≤List.length s∧∀(j:Nat),n≤j→j<x0→BT (gD s j)=true:=hx0;(Kb 3 (ao (Int.ofNat x0) (Int.ofNat (List.length s))) (fun h5=>have gh5:=ae h5;(K1 1 (.chr (gD s x0)) (mc (by simp_all:x0<(s).length)) (Kb 1 (ao (Int.ofNat (gD s x0).toNat) 65) (fun h6=>have gh6:=ae h6;(Mt h6 (Mt h6 (Mt h6 (M1 (.pk true) h6 (Ky 1 (rr0 false))))))) (fun h6=>have gh6:=af h6;(Kh 0 h6 (Kh 0 h6 (M1 (.chr (gD s x0)) (mc (by simp_all:x0<(s).length)) (Mh h6 (K1 0 (.pk false) h6 (Mb (ao 90 (Int.ofNat (gD s x0).toNat)) (fun h7=>have gh7:=ae h7;(Ky 0 (rr0 false))) (fun h7=>have gh7:=af h7;(Kl 1 31 (bA (x:=Int.ofNat x0+(1:Int)) (n:=x0+(1:Nat)) eB) (Kf 0 (nx0 (x0+1) (by exact⟨by omega,by grind,Ny hx0.2.2 (Ju (by omega) (by omega))⟩:n≤x0+(1:Nat)∧x0+(1:Nat)≤List.length s∧∀(j:Nat),n≤j→j<x0+(1:Nat)→BT (gD s j)=true) (by grind:List.length s-(x0+(1:Nat))<List.length s-x0))))))))))))))) (fun h5=>have gh5:=af h5;(Ky 0 (rr0 true))))))))))))))))))))))))))))
theorem Uu(L:List PId)(hl:L.length<2^30):kP 21 [.ls (L.map aJ)] (.bool (pd L [])):=by
  have hlk:∀(m:List (PId×Bool))(a b c:Int),eM (some (.bool false)) false (bj true 3 [(0,1),(1,1),(2,1)] (.agg [iV a,iV b,iV c]) (bR aJ dJ m 0) 0)=some (.bool (Al aT ⟨a,b,c⟩ m)):=fun m a b c=>AU Ad m ⟨a,b,c⟩
  have hup:∀(m:List (PId×Bool))(a b c:Int),qC (bR aJ dJ m 0) m.length (.agg [iV a,iV b,iV c]) (.bool true) (bj true 3 [(0,1),(1,1),(2,1)] (.agg [iV a,iV b,iV c]) (bR aJ dJ m 0) 0)=some (bR aJ dJ (eW aT ⟨a,b,c⟩ true m) 0,(eW aT ⟨a,b,c⟩ true m).length):=fun m a b c=>DG Ad m ⟨a,b,c⟩
  have rr0 b' (h:(pd L [])=b':=by first|rfl|(rw[hj0];rfl)|(rw[hj0,pd];simp only[aS,az,bS, *];first|done|rfl)):=h;exact bF Tryz.func21<|Mg 3<|M9 aJ L ([]:List (PId×Bool)) [0,3,4] (fun d _ e=>([aW<|L.map aJ,AV.map 0,nV d],[AObj.map (bR aJ dJ e 0) e.length])) (fun d e=>pd L []=pd d e) (by rfl) (fun _ _ _ _ _ _ d hj0=>Kl 2 8 (ln aJ L)<|Kh 0 d<|Ky 0<|rr0 true) fun d _ e _ _ f g i _ j _ k hj0=>Kl 2 8 (ln aJ L)<|Kt 0 j<|Kx 2 k<|K1 0 (.look<|fK<|Al aT (PId.mk f.a f.i f.n) e) (hlk e f.a f.i f.n)<|Mb (Al aT (PId.mk f.a f.i f.n) e) (fun _=>Kf 0<|bT<|rr0 false) fun _=>Kx 2 k<|K1 0 (.upd (bR aJ dJ (eW aT (PId.mk f.a f.i f.n) true e) 0) (eW aT (PId.mk f.a f.i f.n) true e).length) (hup e f.a f.i f.n)<|Kl 1 11 (dm d)<|Kf 0<|i (eW aT (PId.mk f.a f.i f.n) true e)<|by(rw[hj0,pd];simp only[aS,az,bS, *];first|done|rfl)
theorem wq{α:Type}[Inhabited α]{l:List α}{i:Nat}(h:i<l.length):gD l i=l[i]:=by simp[gD,List.getD,lD h]
theorem Wg{α:Type}[Inhabited α]{p:α→Bool}{l:List α}(h:∀j,j<l.length→p (gD l j)=true):l.all p=true:=kO.2 fun x hx=>by
  grind[List.getElem_of_mem,wq]
theorem Tb{α:Type}[Inhabited α]{p:α→Bool}{l:List α}{j:Nat}(hj:j<l.length)(h:p (gD l j)=false):l.all p=false:=by
  cases q:l.all p with
  |false=>rfl
  |true=>grind[fp]
theorem yY{p:Nat→Prop}{n:Nat}(h:∀j,j<n→p j)(hn:p n):∀j,j<n+1→p j:=fun j hj=>by
  grind
def Np(s:aE)(x0:Nat):Prop:=x0≤List.length s∧∀(j:Nat),j<x0→BO (33:Int) (126:Int) (gD s j)=true
noncomputable def Cn(s:aE)(x0:Nat):List AV×List AObj:=([AV.str s,nV x0],[])
theorem P8(s:aE)(hs:s.length≤2^39):kP 211 [.str s] (.bool (gG s)):=by
  unfold gG
  have rr0:∀b',(h:(az (ao (Int.ofNat (List.length s)) 1)&&(az (ao 24 (Int.ofNat (List.length s)))&&List.all s (BO 33 126)))=b':=by first|(simp only[aS,az,bS, *];done)|(rw[Wg fun j h=>hx0.2 j (by(first|omega|(simp only[oN]at *;omega)))];simp only[aS,az,bS, *];done)|(rw[Tb (j:=x0) (by(first|omega|(simp only[oN]at *;omega))) (JA (by assumption))];simp only[aS,az,bS, *];done)|(rw[Tb (j:=x0) (by(first|omega|(simp only[oN]at *;omega))) (EC (by assumption))];simp only[aS,az,bS, *];done))→(az (ao (Int.ofNat (List.length s)) 1)&&(az (ao 24 (Int.ofNat (List.length s)))&&List.all s (BO 33 126)))=b':=(fun _ h=>h);exact bF Tryz.func211 (Kb 4 (ao (Int.ofNat (List.length s)) 1) (fun h0=>have gh0:=ae h0;(Mt h0 (Mt h0 (M1 (.pk true) h0 (Ky 1 (rr0 false)))))) (fun h0=>have gh0:=af h0;(Kh 0 h0 (Kh 0 h0 (K1 0 (.pk false) h0 (Mb (ao 24 (Int.ofNat (List.length s))) (fun h1=>have gh1:=ae h1;(Ky 0 (rr0 false))) (fun h1=>have gh1:=af h1;(Mg 0 (ML (Nat) [0,3] (Cn s) (Np s) (fun n=>List.length s-n) (0) (aK ((Cn s) (0))) (by simp_all:(0:Nat)≤List.length s∧∀(j:Nat),j<(0:Nat)→BO (33:Int) (126:Int) (gD s j)=true) (fun x0 hx0 nx0=>have hx0:x0≤List.length s∧∀(j:Nat),j<x0→BO (33:Int) (126:Int) (gD s j)=true:=hx0;(Kb 3 (ao (Int.ofNat x0) (Int.ofNat (List.length s))) (fun h3=>have gh3:=ae h3;(K1 1 (.chr (gD s x0)) (mc (by simp_all:x0<(s).length)) (Kb 1 (ao (Int.ofNat (gD s x0).toNat) 33) (fun h4=>have gh4:=ae h4;(Mt h4 (Mt h4 (Mt h4 (M1 (.pk true) h4 (Ky 1 (rr0 false))))))) (fun h4=>have gh4:=af h4;(Kh 0 h4 (Kh 0 h4 (M1 (.chr (gD s x0)) (mc (by simp_all:x0<(s).length)) (Mh h4 (K1 0 (.pk false) h4 (Mb (ao 126 (Int.ofNat (gD s x0).toNat)) (fun h5=>have gh5:=ae h5;(Ky 0 (rr0 false))) (fun h5=>have gh5:=af h5;(Kl 1 17 (bA (x:=Int.ofNat x0+(1:Int)) (n:=x0+(1:Nat)) eB) (Kf 0 (nx0 (x0+1) (by exact⟨by grind,yY hx0.2 (Ju (by omega) (by omega))⟩:x0+(1:Nat)≤List.length s∧∀(j:Nat),j<x0+(1:Nat)→BO (33:Int) (126:Int) (gD s j)=true) (by grind:List.length s-(x0+(1:Nat))<List.length s-x0))))))))))))))) (fun h3=>have gh3:=af h3;(Ky 0 (rr0 true))))))))))))))
def Xp(l:List aE)(x0:Nat×List aE×Unit):Prop:=(l).drop x0.1=x0.2.1∧l.all gG=x0.2.1.all gG
noncomputable def QZ(l:List aE)(x0:Nat×List aE×Unit):List AV×List AObj:=([AV.ls (l.map nr),nV x0.1],[])
theorem Ux(l:List aE)(hl:l.length<2^40)(hs:∀s,s∈l→s.length≤2^39):kP 106 [.ls (l.map nr)] (.bool (kX l)):=by
  unfold kX
  have rr0:∀b',(h:(az (ao 256 (Int.ofNat l.length))&&l.all gG)=b':=by(simp only[aS,az,bS, *];done))→(az (ao 256 (Int.ofNat l.length))&&l.all gG)=b':=(fun _ h=>h);exact bF Tryz.func106 (Kl 2 5 (Le.len (f:=nr) (l:=l)) (Kb 0 (ao 256 (Int.ofNat l.length)) (fun h0=>have gh0:=ae h0;(Ky 0 (rr0 false))) (fun h0=>have gh0:=af h0;(Mg 0 (ML (Nat×List aE×Unit) [0,3] (QZ l) (Xp l) (fun x=>x.2.1.length) (0,l,()) (aK ((QZ l) (0,l,()))) (et (rfl:List.drop 0 (l)=l) (by rfl:(l.all gG=l.all gG))) (fun x0 hx0 nx0=>Mi (fun r x=>l.all gG=r.all gG) nr hx0 (fun hr0 lt0 hj0=>(Kl 2 9 (Le.len (f:=nr) (l:=l)) (Kh 0 lt0 (Ky 0 (rr0 true))))) (fun w0 r0 hr0 lt0 glt0 nt0 hj0=>(Kl 2 9 (Le.len (f:=nr) (l:=l)) (Kt 0 lt0 (Kx 1 nt0 (Kp 0 (P8 w0 (by exact hs _ (aG hx0.1 hr0))) (Kn 0 (gG w0) (fun h1=>Kf 0 (bT (rr0 false))) (fun h1=>Kl 1 12 (Le.wr (x:=Int.ofNat x0.1+1) eB) (Kf 0 (nx0 (x0.1+1,r0,()) (et (bh hx0.1 hr0) (by(rw[hj0,qn];simp only[aS,az,bS, *];done):(l.all gG=r0.all gG))) (eA hr0))))))))))))))))
def DN(l:List PWord)(x0:Nat×List PWord×Unit):Prop:=(l).drop x0.1=x0.2.1∧x0.2.1=l
noncomputable def tT(l:List PWord)(x0:Nat×List PWord×Unit):List AV×List AObj:=([AV.ls (l.map aQ),AV.ps [] true,nV x0.1],[])
def DM(l:List PWord)(x0:Nat×List PWord×Nat×Nat×List aE):Prop:=(l).drop x0.1=x0.2.1∧x0.2.2.2.1=x0.2.2.2.2.length∧aL l=x0.2.2.2.2++aL x0.2.1∧x0.2.2.2.2.length+x0.2.1.length=l.length
noncomputable def DL(l:List PWord)(x0:Nat×List PWord×Nat×Nat×List aE):List AV×List AObj:=([AV.ls (l.map aQ),AV.slice 0 x0.2.2.1 0 x0.2.2.2.1 none,nV x0.1],[AObj.row 1 true x0.2.2.1 (x0.2.2.2.2.map nr)])
theorem Nj(l:List PWord)(hl:l.length≤300):kP 107 [.ls (l.map aQ)] (.ls ((aL l).map nr)):=by
  have rr0:∀b',(h:((aL l).map nr)=b':=by first|rfl|(rw[←hj0];rfl)|(rw[hj0.2.1];simp[aL]))→((aL l).map nr)=b':=(fun _ h=>h);exact bF Tryz.func107 (Mg 3 (MM (Nat×List PWord×Unit) (Nat×List PWord×Nat×Nat×List aE) [0,3,4] (tT l) (DL l) (DN l) (DM l) (fun x=>x.2.1.length) (fun x=>x.2.1.length) (.inl (0,l,())) (aK ((tT l) (0,l,()))) (et (rfl:List.drop 0 (l)=l) (by rfl:(l=l))) (fun x0 hx0 nx0=>Mc x0.2.1 (fun hr0=>have lt0:=fg hx0.1 hr0;(have hj0:=iX (J:=fun r x=>r=l) (a:=x0.2.2) hr0 hx0.2;(Kl 2 8 (Le.len (f:=aQ) (l:=l)) (Kh 0 lt0 (Kf 1 ((Le.lsp (rr0 ([])) (by rfl)):Le _ (kM [] true))))))) (fun w0 r0 hr0=>have lt0:=fR hx0.1 hr0;(have glt0:=ae lt0;(have nt0:=fe (enc:=aQ) hx0.1 hr0;(have hj0:=cX (J:=fun r x=>r=l) (a:=x0.2.2) hr0 hx0.2;(have q0:r0.length+(1:Nat)≤l.length:=gC hx0.1 hr0;(Kl 2 8 (Le.len (f:=aQ) (l:=l)) (Kt 0 lt0 (Kx 2 nt0 (Kl 6 11 (Le.wr (x:=Int.ofNat x0.1+1) eB) (Kf 0 (nx0 (.inr (x0.1+1,r0,(0,1,[w0.text]))) (et (bh hx0.1 hr0) (by exact⟨rfl,by rw[←hj0];rfl,by grind⟩:((1:Nat)=[w0.text].length∧aL l=[w0.text]++aL r0∧[w0.text].length+r0.length=l.length))) (eA hr0))))))))))))) (fun x0 hx0 nx0=>Mc x0.2.1 (fun hr0=>have lt0:=fg hx0.1 hr0;(have hj0:=iX (J:=fun r x=>x.2.1=x.2.2.length∧aL l=x.2.2++aL r∧x.2.2.length+r.length=l.length) (a:=x0.2.2) hr0 hx0.2;(Kl 2 8 (Le.len (f:=aQ) (l:=l)) (Kh 0 lt0 (Mg 1 (M2 (.fsl 0 [] 2 (x0.2.2.2.2.map nr)) ti (ct (aK (x0.2.2.1)) (yU (f:=nr) (l:=x0.2.2.2.2) (n:=x0.2.2.2.1) (by omega:(x0.2.2.2.2).length=x0.2.2.2.1)) (aX J3 (x0.2.2.2.2))) (Ml 2 (fG (x0.2.2.2.2.map nr) (false) (aX J3 (x0.2.2.2.2))) (Mf (cJ (rr0 (x0.2.2.2.2.map nr))))))))))) (fun w0 r0 hr0=>have lt0:=fR hx0.1 hr0;(have glt0:=ae lt0;(have nt0:=fe (enc:=aQ) hx0.1 hr0;(have hj0:=cX (J:=fun r x=>x.2.1=x.2.2.length∧aL l=x.2.2++aL r∧x.2.2.length+r.length=l.length) (a:=x0.2.2) hr0 hx0.2;(have q0:r0.length+(1:Nat)≤l.length:=gC hx0.1 hr0;(Kl 2 8 (Le.len (f:=aQ) (l:=l)) (Kt 0 lt0 (Kx 2 nt0 (K1 2 .app (ct (aK (x0.2.2.1)) (by simp_all:x0.2.2.2.1=(x0.2.2.2.2.map nr).length) (by(have z:=hj0.2.2;have z2:=hj0.1;simp only[lC]at z;refine au (m:=10000) ?_ ?_ ?_<;>omega):small (x0.2.2.2.1+1) 16=true)) (M1 (.obj 0 (aZ 1 true (x0.2.2.1+1) ((x0.2.2.2.2++[w0.text]).map nr))) (congrArg (aZ 1 true (x0.2.2.1+1)) (cp (f:=nr) (l:=x0.2.2.2.2) (ws:=[w0.text]))) (Kl 2 11 (Le.wr (x:=Int.ofNat x0.1+1) eB) (Kf 0 (nx0 (.inr (x0.1+1,r0,(x0.2.2.1+1,x0.2.2.2.1+1,x0.2.2.2.2++[w0.text]))) (et (bh hx0.1 hr0) (by grind[aL]:(x0.2.2.2.1+(1:Nat)=(x0.2.2.2.2++[w0.text]).length∧aL l=x0.2.2.2.2++[w0.text]++aL r0∧(x0.2.2.2.2++[w0.text]).length+r0.length=l.length))) (eA hr0)))))))))))))))))
theorem Lx(l:List PWord)(hl:l.length≤300)(hs:∀w,w∈l→w.text.length≤2^39):kP 61 [.ls (l.map aQ)] (.bool (dz l)):=by
  have h:=Nj l hl
  have h2:=Ux (aL l) (by grind[aL]) (fun s hs'=>by obtain⟨w,hw,e⟩:=fE.1 hs';grind)
  unfold dz
  rw[show(l.map fun w=>w.text)=aL l from rfl]
  have rr0:∀b',(h:(az (ao 256 (Int.ofNat l.length))&&kX (aL l))=b':=by(simp only[aS,az,bS, *];first|done|rfl))→(az (ao 256 (Int.ofNat l.length))&&kX (aL l))=b':=(fun _ h=>h);exact bF Tryz.func61 (Kl 2 4 (Le.len (f:=aQ) (l:=l)) (Kn 1 (ao 256 (Int.ofNat l.length)) (fun h0=>(Kt 0 (cA h0) (Mp (h) (Mt (cA h0) (Mp (h2) (M1 (.pk true) (cA h0) (Kf 0 (bT (rr0 (kX (aL l))))))))))) (fun h0=>(Mh (cw h0) (Mh (cw h0) (M1 (.pk false) (cw h0) (Ky 0 (rr0 false))))))))
theorem N4(p k:Int):kP 38 [iV p,iV k] (.bool (fh p k)):=by
  have rr0:∀b',(h:(fh p k)=b':=by(simp only[fh,aS,az,bS,cond_true,cond_false, *];first|done|rfl))→(fh p k)=b':=(fun _ h=>h);exact bF Tryz.func38 (Kb 3 (ak p 0) (fun h0=>(Kb 2 (ak k 1) (fun h1=>(Mt h1 (M1 (.pk true) h1 (Ky 0 (rr0 true))))) (fun h1=>(Kh 0 h1 (K1 0 (.pk false) h1 (Kf 0 (bT (rr0 (ak k 2))))))))) (fun h0=>(Kb 1 (ak p 1) (fun h2=>(Kf 2 (bT (rr0 (ak k 2))))) (fun h2=>(Kb 1 (ak p 2) (fun h3=>(Mt h3 (Kb 2 (ak k 3) (fun h4=>(Mt h4 (M1 (.pk true) h4 (Ky 2 (rr0 true))))) (fun h4=>(Kh 0 h4 (K1 0 (.pk false) h4 (Kb 0 (ak k 4) (fun h5=>(Mt h5 (M1 (.pk true) h5 (Ky 0 (rr0 true))))) (fun h5=>(Kh 0 h5 (K1 0 (.pk false) h5 (Kf 0 (bT (rr0 (ak k 7)))))))))))))) (fun h3=>(Kb 1 (ak p 3) (fun h6=>(Kb 2 (ak k 3) (fun h7=>(Mt h7 (M1 (.pk true) h7 (Ky 2 (rr0 true))))) (fun h7=>(Kh 0 h7 (K1 0 (.pk false) h7 (Kb 0 (ak k 4) (fun h8=>(Mt h8 (M1 (.pk true) h8 (Ky 0 (rr0 true))))) (fun h8=>(Kh 0 h8 (K1 0 (.pk false) h8 (Kf 0 (bT (rr0 (ak k 7))))))))))))) (fun h6=>(Kb 1 (ak p 4) (fun h9=>(Kf 2 (bT (rr0 (ak k 5))))) (fun h9=>(Kb 1 (ak p 5) (fun h10=>(Kf 2 (bT (rr0 (ak k 6))))) (fun h10=>(Ky 0 (rr0 false))))))))))))))
theorem OT(u:TUnit)(h:oa u)(hk:u.kids.length≤2^20):kP 37 [eU u] (.bool (ec u)):=by
  obtain⟨h1,h2,h3,h4,h5⟩:=h
  have g1:=Lx u.head h1 h4
  have g2:=Lx u.words h2 h5
  have g3:=VV u.label h3
  have rr0:∀b',(h:(ec u)=b':=by(simp only[ec,aS,az,bS,cond_true,cond_false, *];first|done|rfl))→(ec u)=b':=(fun _ h=>h);exact bF Tryz.func37 (Kb 5 (ao u.kind 0) (fun h0=>(Mt h0 (Mt h0 (M1 (.pk true) h0 (Ky 7 (rr0 false)))))) (fun h0=>(Kh 0 h0 (Kh 0 h0 (K1 0 (.pk false) h0 (Kb 0 (ao 7 u.kind) (fun h1=>(Mt h1 (Mt h1 (Mt h1 (M1 (.pk true) h1 (Ky 5 (rr0 false))))))) (fun h1=>(Kh 0 h1 (Kh 0 h1 (Kl 0 14 (Le.len (f:=aY) (l:=u.kids)) (Mh h1 (K1 0 (.pk false) h1 (Kb 0 (ao 64 (Int.ofNat u.kids.length)) (fun h2=>(Mt h2 (Mt h2 (Mt h2 (M1 (.pk true) h2 (Ky 3 (rr0 false))))))) (fun h2=>(Kh 0 h2 (Kh 0 h2 (Mp (g1) (Mh h2 (K1 0 (.pk false) h2 (Kb 0 (az (dz u.head)) (fun z=>have h3:(dz u.head)=false:=(lH z);(Mt (cA h3) (Mt (cA h3) (Mt (cA h3) (M1 (.pk true) (cA h3) (Ky 1 (rr0 false))))))) (fun z=>have h3:(dz u.head)=true:=(kf z);(Kh 0 (cw h3) (Kh 0 (cw h3) (Mp (g2) (Mh (cw h3) (K1 0 (.pk false) (cw h3) (Mn (dz u.words) (fun h4=>Kf 0 (bT (rr0 false))) (fun h4=>Kb 2 (ak u.kind 0) (fun h5=>(Kb 3 (dL u.label (ByteArray.mk #[]).data.toList) (fun h6=>Kt 0 h6 (Kt 0 h6 (Kl 0 38 (Le.len (f:=aQ) (l:=u.head)) (Mt h6 (K1 0 (.pk true) h6 (Kb 0 (ak (Int.ofNat u.head.length) 0) (fun h7=>(Kt 0 h7 (Kt 0 h7 (Kl 0 44 (Le.len (f:=aQ) (l:=u.words)) (Mt h7 (K1 0 (.pk true) h7 (Kf 0 (bT (rr0 (ak (Int.ofNat u.words.length) 0)))))))))) (fun h7=>(Mh h7 (Mh h7 (Mh h7 (M1 (.pk false) h7 (Ky 0 (rr0 false))))))))))))) (fun h6=>Mh h6 (Mh h6 (Mh h6 (M1 (.pk false) h6 (Ky 2 (rr0 false)))))))) (fun h5=>(Kp 1 (g3) (Kf 0 (bT (rr0 (fS u.label))))))))))))))))))))))))))))))))))
theorem Zs{pk:Int}{d r:List TUnit}{w:TUnit}(h:fh pk w.kind=false):dj pk d (w::r)=false:=by rw[ky,h];rfl
theorem Zr{pk:Int}{d r:List TUnit}{w:TUnit}(h:nK w=false):dj pk d (w::r)=false:=by rw[ky,h];simp_all
theorem Zp{pk:Int}{d r:List TUnit}{w x:TUnit}(hx:x∈d)(h:gi w x=true):dj pk d (w::r)=false:=by
  rw[ky,List.any_eq_true.2 ⟨x,hx,h⟩];simp_all
theorem Zo{pk:Int}{d r:List TUnit}{w:TUnit}(h1:fh pk w.kind=true)(h2:nK w=true)(h3:∀x,x∈d→gi w x=false):dj pk d (w::r)=dj pk (d++[w]) r:=by
  have:d.any (gi w)=false:=by
    simp_all
  rw[ky,h1,h2,this];rfl
theorem Hb{l:List TUnit}{i j:Nat}(h:i<j)(hj:j≤l.length):gD l i∈l.take j:=by
  rw[wq (show i<l.length by omega)]
  exact List.mem_iff_getElem.2 ⟨i,by simp_all,List.getElem_take ..⟩
theorem T3{l:List TUnit}{j:Nat}{x:TUnit}(h:x∈l.take j):∃i,i<j∧x=gD l i:=by
  obtain⟨i,hi,e⟩:=sd h
  rw[List.length_take]at hi
  refine⟨i,by omega,?_⟩
  grind[wq]
theorem Nv{l:List TUnit}{j:Nat}{w:TUnit}{r:List TUnit}(h:l.drop j=w::r):l.take j++[w]=l.take (j+1):=by
  grind[List.drop_eq_getElem_cons]
theorem Nn{k d:TUnit}(h:ak d.kind k.kind=false):gi k d=false:=by unfold gi;simp_all
theorem Nm{k d:TUnit}(h:dL d.label k.label=false):gi k d=false:=by simp_all[gi]
theorem P7{k d:TUnit}(h:ak d.kind k.kind=true)(h2:dL d.label k.label=true):gi k d=true:=by unfold gi;simp_all
theorem QW{l r:List TUnit}{w:TUnit}{j:Nat}(h:l.drop j=w::r):j<l.length∧l.length-(w::r).length=j∧l.length-r.length=j+1:=by
  grind
theorem QX{A:Bool}{pk:Int}{l r:List TUnit}{w:TUnit}{j:Nat}(h:l.drop j=w::r)(h0:A=dj pk (l.take (l.length-(w::r).length)) (w::r))(h1:fh pk w.kind=true)(h2:nK w=true)(h3:∀i,i<j→gi w (gD l i)=false):A=dj pk (l.take (l.length-r.length)) r:=by
  obtain⟨q1,q2,q3⟩:=QW h
  rw[h0,q2,q3,Zo h1 h2,Nv h]
  intro x hx
  obtain⟨i,hi,rfl⟩:=T3 hx
  simp_all
theorem Uj{A:Bool}{pk:Int}{l r:List TUnit}{w:TUnit}{j i:Nat}(h:l.drop j=w::r)(h0:A=dj pk (l.take (l.length-(w::r).length)) (w::r))(hi:i<j)(h1:gi w (gD l i)=true):A=false:=by
  obtain⟨q1,q2,q3⟩:=QW h
  rw[h0,q2];exact Zp (Hb hi (by omega)) h1
def QK(u:TUnit)(x0:Nat×List TUnit×Unit):Prop:=(u.kids).drop x0.1=x0.2.1∧dj u.kind [] u.kids=dj u.kind (u.kids.take (u.kids.length-x0.2.1.length)) x0.2.1
noncomputable def Gv(u:TUnit)(x0:Nat×List TUnit×Unit):List AV×List AObj:=([AV.pptr [AV.agg [iV u.act,iV u.item,iV u.n,iV u.kind,AV.str u.label,AV.ls (u.head.map aQ),AV.ls (u.words.map aQ),AV.ls (u.kids.map aY)]] 0 0,nV x0.1],[])
def JQ(u:TUnit)(x0:Nat×List TUnit×Unit)(w0:TUnit)(x1:Nat):Prop:=x1≤x0.1∧∀(j:Nat),j<x1→gi w0 (gD u.kids j)=false
noncomputable def zf(u:TUnit)(x0:Nat×List TUnit×Unit)(w0:TUnit)(x1:Nat):List AV×List AObj:=([AV.pptr [AV.agg [iV u.act,iV u.item,iV u.n,iV u.kind,AV.str u.label,AV.ls (u.head.map aQ),AV.ls (u.words.map aQ),AV.ls (u.kids.map aY)]] 0 0,nV x0.1,nV x1],[])
theorem Ns:∀(u:TUnit),nU u≤2^20→(∀x,x∈bW u→oa x)→kP 17 [eU u] (.bool (nK u)):=by
  refine TUnit.ind fun u ih hn hw=>?_
  have hkl:=bz u
  have ha:=OT u (hw u (bq u)) (by omega)
  have ihk:∀k,k∈u.kids→kP 17 [eU k] (.bool (nK k)):=fun k hk=>ih k hk (bL (mj (gI hk)) hn) fun x hx=>hw x (bX hk hx)
  rw[Co]
  have rr0:∀b',(h:(ec u&&dj u.kind [] u.kids)=b':=by first|(simp only[aS,az,bS, *];done)|(rw[Uj (i:=x1) (hx0.1.trans hr0) hj0 (by(first|omega|(simp only[oN]at *;omega))) (P7 (by assumption) (by assumption))];simp only[aS,az,bS, *];done)|(rw[hj0,Zs (by assumption)];simp only[aS,az,bS, *];done)|(rw[hj0,Zr (by assumption)];simp only[aS,az,bS, *];done)|(rw[hj0,wT];simp only[aS,az,bS, *];done))→(ec u&&dj u.kind [] u.kids)=b':=(fun _ h=>h);exact bF Tryz.func17 (Kp 2 (ha) (Kb 0 (az (ec u)) (fun z=>have h0:(ec u)=false:=(lH z);(Ky 0 (rr0 false))) (fun z=>have h0:(ec u)=true:=(kf z);(K1 0 (.frz 0 [1,3]) ti (ML (Nat×List TUnit×Unit) [1,3] (Gv u) (QK u) (fun x=>x.2.1.length) (0,u.kids,()) (aK ((Gv u) (0,u.kids,()))) (et (rfl:List.drop 0 (u.kids)=u.kids) (by simp_all:(dj u.kind [] u.kids=dj u.kind (u.kids.take (u.kids.length-u.kids.length)) u.kids))) (fun x0 hx0 nx0=>Mi (fun r x=>dj u.kind [] u.kids=dj u.kind (u.kids.take (u.kids.length-r.length)) r) aY hx0 (fun hr0 lt0 hj0=>(Kl 3 11 (Le.len (f:=aY) (l:=u.kids)) (Kh 0 lt0 (Ky 0 (rr0 true))))) (fun w0 r0 hr0 lt0 glt0 nt0 hj0=>have nt0:=nt0.trans (congrArg some (aD w0));(Kl 3 11 (Le.len (f:=aY) (l:=u.kids)) (Kt 0 lt0 (Kx 4 nt0 (Kp 1 (N4 (u.kind) (w0.kind)) (Kb 1 (az (fh u.kind w0.kind)) (fun z=>have h1:(fh u.kind w0.kind)=false:=(lH z);(Mt (cA h1) (Mt (cA h1) (Mt (cA h1) (Mt (cA h1) (Mt (cA h1) (Mt (cA h1) (M1 (.pk true) (cA h1) (Ky 1 (rr0 false)))))))))) (fun z=>have h1:(fh u.kind w0.kind)=true:=(kf z);(Kh 0 (cw h1) (Kh 0 (cw h1) (Kh 0 (cw h1) (Mx nt0 (Mh (cw h1) (Kh 0 (cw h1) (Mp (ihk w0 (by exact aG hx0.1 hr0)) (Mh (cw h1) (K1 0 (.pk false) (cw h1) (Mn (nK w0) (fun h2=>Kf 0 (bT (rr0 false))) (fun h2=>Mg 0 (ML (Nat) [1,3,4] (zf u x0 w0) (JQ u x0 w0) (fun k=>x0.1-k) (0) (aK ((zf u x0 w0) (0))) (by simp_all:(0:Nat)≤x0.1∧∀(j:Nat),j<(0:Nat)→gi w0 (gD u.kids j)=false) (fun x1 hx1 nx1=>have hx1:x1≤x0.1∧∀(j:Nat),j<x1→gi w0 (gD u.kids j)=false:=hx1;(Kb 2 (ao (Int.ofNat x1) (Int.ofNat x0.1)) (fun h4=>have gh4:=ae h4;(Kx 2 ((bJ aY (by grind:x1<(u.kids).length)).trans (congrArg some (aD _))) (Kx 4 nt0 (Kb 3 (ak (gD u.kids x1).kind w0.kind) (fun h5=>have gh5:=iI h5;(Kt 0 h5 (Kt 0 h5 (Kt 0 h5 (Mx ((bJ aY (by grind:x1<(u.kids).length)).trans (congrArg some (aD _))) (Mt h5 (Kt 0 h5 (Kt 0 h5 (Kt 0 h5 (Kt 0 h5 (Kt 0 h5 (Mx nt0 (Mt h5 (Kt 0 h5 (Kt 0 h5 (K1 0 (.pk true) h5 (Mb (dL (gD u.kids x1).label w0.label) (fun h6=>Kf 0 (bT (rr0 false))) (fun h6=>Kl 1 38 (bA (x:=Int.ofNat x1+(1:Int)) (n:=x1+(1:Nat)) eB) (Kf 0 (nx1 (x1+1) (by exact⟨by grind,yY hx1.2 (Nm (by omega))⟩:x1+(1:Nat)≤x0.1∧∀(j:Nat),j<x1+(1:Nat)→gi w0 (gD u.kids j)=false) (by grind:x0.1-(x1+(1:Nat))<x0.1-x1))))))))))))))))))))) (fun h5=>have gh5:=AH h5;(Mh h5 (Mh h5 (Mh h5 (Mh h5 (Mh h5 (Mh h5 (Mh h5 (Mh h5 (Mh h5 (Mh h5 (Mh h5 (Mh h5 (M1 (.pk false) h5 (Kl 2 38 (bA (x:=Int.ofNat x1+(1:Int)) (n:=x1+(1:Nat)) eB) (Kf 0 (nx1 (x1+1) (by exact⟨by grind,yY hx1.2 (Nn (by omega))⟩:x1+(1:Nat)≤x0.1∧∀(j:Nat),j<x1+(1:Nat)→gi w0 (gD u.kids j)=false) (by grind:x0.1-(x1+(1:Nat))<x0.1-x1)))))))))))))))))))))) (fun h4=>have gh4:=af h4;(Kl 1 14 (bA (x:=Int.ofNat x0.1+(1:Int)) (n:=x0.1+(1:Nat)) eB) (Kf 0 (nx0 (x0.1+1,r0,()) (et (bh hx0.1 hr0) (by exact QX (hx0.1.trans hr0) hj0 (by omega) (by omega) (fun i hi=>hx1.2 i (by grind)):(dj u.kind [] u.kids=dj u.kind (u.kids.take (u.kids.length-r0.length)) r0))) (eA hr0))))))))))))))))))))))))))))))))
theorem XR(u:TUnit):(cR u).length=nU u:=by grind[cR,zo]
def Fm(l:List PId)(i:Nat):Bool:=mp (l.take i) (l.drop i)
theorem Xc{α:Type}[Inhabited α]{l:List α}{n:Nat}(h:n<l.length):l.take (n+1)=l.take n++[gD l n]:=by
  rw[KG h,wq h]
theorem ZO(l:List PId):mp [] l=Fm l 0:=rfl
theorem UF{l:List PId}:Fm l l.length=true:=by unfold Fm;rw[List.drop_length];rfl
theorem XO{l:List PId}{i k:Nat}(hi:i<l.length)(hk:k<i)(h:aT (gD l k) (gD l i)=true):Fm l i=false:=by
  unfold Fm
  rw[sQ hi,mp]
  have:((l.take i).any fun q=>aT q (gD l i))=true:=List.any_eq_true.2 ⟨gD l k,by
    rw[wq (show k<l.length by omega)]
    exact List.mem_iff_getElem.2 ⟨k,by grind,List.getElem_take ..⟩,h⟩
  grind
theorem QN{l:List PId}{i:Nat}(hi:i<l.length)(h:∀k,k<i→aT (gD l k) (gD l i)=false):Fm l i=Fm l (i+1):=by
  have:((l.take i).any fun q=>aT q (gD l i))=false:=by
    cases q:(l.take i).any fun q=>aT q (gD l i)with
    |false=>rfl
    | true=>
      grind[List.getElem_of_mem,wq]
  unfold Fm
  rw[sQ hi,mp,this,Xc hi];rfl
def Yj(u:TUnit)(L:List PId)(x0:Nat×List PId×Bool):Prop:=(L).drop x0.1=x0.2.1∧L.all BM=(x0.2.2&&x0.2.1.all BM)
noncomputable def RG(u:TUnit)(L:List PId)(x0:Nat×List PId×Bool):List AV×List AObj:=([AV.pptr [AV.agg [iV u.act,iV u.item,iV u.n,iV u.kind,AV.str u.label,AV.ls (u.head.map aQ),AV.ls (u.words.map aQ),AV.ls (u.kids.map aY)]] 0 0,AV.ls (L.map aJ),AV.bool x0.2.2,nV x0.1],[])
def RF(L:List PId)(x1:Nat):Prop:=x1≤L.length∧Fm L (0:Nat)=Fm L x1
noncomputable def HK(L:List PId)(x1:Nat):List AV×List AObj:=([AV.ls (L.map aJ),nV x1],[])
def RE(L:List PId)(x1:Nat)(x2:Nat):Prop:=x2≤x1∧∀(j:Nat),j<x2→aT (gD L j) (gD L x1)=false
noncomputable def HJ(L:List PId)(x1:Nat)(x2:Nat):List AV×List AObj:=([AV.ls (L.map aJ),nV x1,nV x2],[])
theorem Vn(u:TUnit)(hn:nU u≤2^20):kP 18 [eU u] (.bool (Vm u)):=by
  have ha:=M7 u hn
  have hl:=XR u
  unfold Vm
  rw[gQ]at hl ⊢
  obtain⟨L,hL⟩:∃L,L=ah u::bx u.kids:=⟨_,rfl⟩
  have hz:gD L 0=ah u:=by rw[hL];rfl
  rw[←hL]at ha hl ⊢
  rw[←hz]
  have hpos:0<L.length:=by grind
  rw[ZO]
  clear hL hz
  have rr0:∀b',(h:(L.all BM||BM (gD L 0)==ak u.kind 0&&Fm L 0)=b':=by first|(rw[hj0];simp only[BM,aS,az,bS, *];done)|(rw[hx1.2,XO (k:=x2) (by(first|omega|(simp only[oN]at *;omega))) (by(first|omega|(simp only[oN]at *;omega))) (by assumption),hj0];simp only[BM,aS,az,bS, *];done)|(rw[hj0,hx1.2,show x1=L.length by(first|omega|(simp only[oN]at *;omega)),UF];simp only[BM,aS,az,bS, *];done))→(L.all BM||BM (gD L 0)==ak u.kind 0&&Fm L 0)=b':=(fun _ h=>h);let q:=[iV 0,iV 0,iV 0];exact bF Tryz.func18 (Kp 2 (ha) (K1 2 (.frz 0 [1,3,4,5]) ti (ML (Nat×List PId×Bool) [1,3,4,5] (RG u L) (Yj u L) (fun x=>x.2.1.length) (0,L,true) (aK ((RG u L) (0,L,true))) (et (rfl:List.drop 0 (L)=L) (by rfl:(L.all BM=(true&&L.all BM)))) (fun x0 hx0 nx0=>Mi (fun r b=>L.all BM=(b&&r.all BM)) aJ hx0 (fun hr0 lt0 hj0=>(Kl 2 12 (Le.len (f:=aJ) (l:=L)) (Kh 0 lt0 (Kb 0 x0.2.2 (fun h0=>Kf 0 (bT (rr0 true))) (fun h0=>Kx 0 (bJ aJ (by omega:0<(L).length)) (Kv 1 (sq (d:=(Tryz.prog).underlying 27) (n:=3) (l:=(0,1)::(1,1)::(2,1)::[]) (xs:=[iV (gD L 0).a,iV (gD L 0).i,iV (gD L 0).n]) (ys:=q) (H:=AHeap.mk 1000000 Tr.nil) rfl (lQ (e:=ak (gD L 0).a 0) rfl rfl rfl (lQ (e:=ak (gD L 0).i 0) rfl rfl rfl (uR (e:=ak (gD L 0).n 0) rfl rfl rfl rfl)))) (Kn 3 ((ak (gD L 0).a 0&&(ak (gD L 0).i 0&&ak (gD L 0).n 0))==ak u.kind 0) (fun h1=>Kf 0 (bT (rr0 false))) (fun h1=>Mg 0 (ML (Nat) [3,6] (HK L) (RF L) (fun i=>L.length-i) (0) (aK ((HK L) (0))) (by simp_all:(0:Nat)≤L.length∧Fm L (0:Nat)=Fm L (0:Nat)) (fun x1 hx1 nx1=>have hx1:x1≤L.length∧Fm L (0:Nat)=Fm L x1:=hx1;(Kl 2 37 (Le.len (f:=aJ) (l:=L)) (Kb 0 (ao (Int.ofNat x1) (Int.ofNat L.length)) (fun h3=>have gh3:=ae h3;(Mg 0 (ML (Nat) [3,6,7] (HJ L x1) (RE L x1) (fun k=>x1-k) (0) (aK ((HJ L x1) (0))) (by simp_all:(0:Nat)≤x1∧∀(j:Nat),j<(0:Nat)→aT (gD L j) (gD L x1)=false) (fun x2 hx2 nx2=>have hx2:x2≤x1∧∀(j:Nat),j<x2→aT (gD L j) (gD L x1)=false:=hx2;(Kb 2 (ao (Int.ofNat x2) (Int.ofNat x1)) (fun h5=>have gh5:=ae h5;(Kx 1 (bJ aJ (by grind:x2<(L).length)) (Kx 2 (bJ aJ (by simp_all:x1<(L).length)) (Kv 0 (sq (d:=(Tryz.prog).underlying 27) (n:=3) (l:=(0,1)::(1,1)::(2,1)::[]) (xs:=[iV (gD L x2).a,iV (gD L x2).i,iV (gD L x2).n]) (ys:=[iV (gD L x1).a,iV (gD L x1).i,iV (gD L x1).n]) (H:=AHeap.mk 1000000 Tr.nil) rfl (lQ (e:=ak (gD L x2).a (gD L x1).a) rfl rfl rfl (lQ (e:=ak (gD L x2).i (gD L x1).i) rfl rfl rfl (uR (e:=ak (gD L x2).n (gD L x1).n) rfl rfl rfl rfl)))) (Mb (ak (gD L x2).a (gD L x1).a &&(ak (gD L x2).i (gD L x1).i &&ak (gD L x2).n (gD L x1).n)) (fun h6=>Kf 0 (bT (rr0 false))) (fun h6=>Kl 1 45 (bA (x:=Int.ofNat x2+(1:Int)) (n:=x2+(1:Nat)) eB) (Kf 0 (nx2 (x2+1) (by exact⟨by grind,yY hx2.2 (by assumption)⟩:x2+(1:Nat)≤x1∧∀(j:Nat),j<x2+(1:Nat)→aT (gD L j) (gD L x1)=false) (by grind:x1-(x2+(1:Nat))<x1-x2))))))))) (fun h5=>have gh5:=af h5;(Kl 1 40 (bA (x:=Int.ofNat x1+(1:Int)) (n:=x1+(1:Nat)) eB) (Kf 0 (nx1 (x1+1) (by grind[QN]:x1+(1:Nat)≤L.length∧Fm L (0:Nat)=Fm L (x1+(1:Nat))) (by grind:L.length-(x1+(1:Nat))<L.length-x1)))))))))) (fun h3=>have gh3:=af h3;(Ky 0 (rr0 true))))))))))))))) (fun w0 r0 hr0 lt0 glt0 nt0 hj0=>(Kl 2 12 (Le.len (f:=aJ) (l:=L)) (Kt 0 lt0 (Kb 1 x0.2.2 (fun h7=>Kt 0 h7 (Kt 0 h7 (Mx nt0 (Mt h7 (Kt 0 h7 (Kt 0 h7 (Mv (sq (d:=(Tryz.prog).underlying 27) (n:=3) (l:=(0,1)::(1,1)::(2,1)::[]) (xs:=[iV w0.a,iV w0.i,iV w0.n]) (ys:=q) (H:=aa []) rfl (lQ (e:=ak w0.a 0) rfl rfl rfl (lQ (e:=ak w0.i 0) rfl rfl rfl (uR (e:=ak w0.n 0) rfl rfl rfl rfl)))) (M1 (.pk true) h7 (Kl 2 15 (bA (x:=Int.ofNat x0.1+(1:Int)) (n:=x0.1+(1:Nat)) eB) (Kf 0 (nx0 (x0.1+1,r0,ak w0.a 0&&(ak w0.i 0&&ak w0.n 0)) (et (bh hx0.1 hr0) (by(rw[hj0,qn];simp only[BM,aS,az,bS, *];done):(L.all BM=(ak w0.a (0:Int)&&(ak w0.i (0:Int)&&ak w0.n (0:Int))&&r0.all BM)))) (eA hr0)))))))))))) (fun h7=>Mh h7 (Mh h7 (Mh h7 (Mh h7 (Mh h7 (M1 (.pk false) h7 (Kl 2 15 (bA (x:=Int.ofNat x0.1+(1:Int)) (n:=x0.1+(1:Nat)) eB) (Kf 0 (nx0 (x0.1+1,r0,false) (et (bh hx0.1 hr0) (by(rw[hj0,qn];simp only[BM,aS,az,bS, *];done):(L.all BM=(false&&r0.all BM)))) (eA hr0))))))))))))))))))
noncomputable def WS(p:PId)(d:PDeed):Bool:=ak d.act p.a&&(ak d.item p.i&&ak d.it.kind 0)
theorem Xx(day:Int)(p:aE)(gs:List PGaz)(haw:kP 9 [] (.bool true))(hw:kP 10 [.ls (gs.map bZ),.str p] (.bool false)):kP 4 [iV day,.str p,.ls (gs.map bZ)] (.bool true):=by
  exact bF Tryz.func4<|Kp 0 haw<|Kp 3 hw<|Kf 2<|bu<|fK true
theorem Xj(day:Int)(p:aE)(gs:List PGaz)(u:TUnit)(X:List PDeed)(W:List PWord)(I:List PId)(haw:kP 9 [] (.bool true))(hw:kP 10 [.ls (gs.map bZ),.str p] (.bool true))
    (b0:kP 12 [iV day,.str p,.ls (gs.map bZ)] (eU u))
    (hr:kP 17 [eU u] (.bool true))
    (hd:kP 18 [eU u] (.bool true))
    (ha:kP 19 [eU u] (.ls (I.map aJ)))
    (ho:kP 20 [iV day,.str p,.ls (gs.map bZ)] (.ls (X.map aU)))
    (hm:kP 22 [eU u] (.ls (W.map bE)))
    (hc:kP 21 [.ls (W.map bE)] (.bool true))
    (hX:X.length<2^30)(hi:I.length<2^30)
    (hI:∀k,0<k→k<I.length→X.any (WS (gD I k))=true):
    kP 4 [iV day,.str p,.ls (gs.map bZ)] (.bool true):=by
  have rr0 b' (h:(true)=b':=by(exfalso;have z:=(hI za0 hx0 (by(simp only[oN]at *;omega))).symm.trans hj1;simp_all;done)):=h;exact bF Tryz.func4<|Kp 0 haw<|Kp 3 hw<|Kp 4 b0<|Kp 2 hr<|Kp 2 hd<|Kp 3 ha<|Kp 3 ho<|Mg 1<|MO1 (1:Nat) [7,8,9,10] (fun a=>([bK 0 0 0 0,aW<|I.map aJ,aW<|X.map aU,nV a],[aZ 8 false 0 [aw [iV u.act,iV u.item,iV u.n,iV u.kind,aj u.label,aW<|u.head.map aQ,aW<|u.words.map aQ,aW<|u.kids.map aY]]])) (fun a=>(1:Nat)≤a) (fun a=>I.length-a) (by exact an _) fun za0 hx0 a=>have hx0:=hx0;Kl 2 39 (ln aJ I)<|Ka 0 (Int.ofNat za0) (Int.ofNat I.length) (fun _ _=>Mg 1<|M9 aU X false [7,8,9,10,11,12] (fun a _ b=>([bK 0 0 0 0,aW<|I.map aJ,aW<|X.map aU,nV za0,fK b,nV a],[aZ 8 false 0 [aw [iV u.act,iV u.item,iV u.n,iV u.kind,aj u.label,aW<|u.head.map aQ,aW<|u.words.map aQ,aW<|u.kids.map aY]]])) (fun a b=>X.any (WS<|gD I za0)=(b||a.any (WS<|gD I za0))) (by rfl) (fun _ _ b _ _ _ c hj1=>Kl 2 45 (ln aU X)<|Kh 0 c<|Kn 1 b (fun _=>Kf 0<|bT<|rr0 false) fun _=>Kl 1 42 (ji za0)<|Kf 0<|a (za0+1) (by(omega))<|by(simp only[oN]at *;omega)) fun a _ b _ _ c d e _ f _ g hj1=>Kl 2 45 (ln aU X)<|Kt 0 f<|Kb 1 b (fun b=>Mt b<|Mt b<|Mt b<|Mt b<|Mt b<|Mt b<|Mt b<|Mt b<|Mt b<|Mt b<|Mt b<|Mt b<|Mt b<|Mt b<|MV b<|Kl 2 48 (ji a)<|Kf 0<|e true<|by(simp_all[WS];done)) fun b=>Kh 0 b<|Kh 0 b<|Mx g<|Mh b<|Kh 0 b<|Kh 0 b<|Kh 0 b<|Kh 0 b<|Mx (bJ aJ (by(simp only[oN,lM,lS]at *;omega):za0<(I).length))<|Mh b<|Kh 0 b<|Kh 0 b<|Kh 0 b<|Kj 0 c.act (gD I za0).a (fun f _=>Kt 0 f<|Kt 0 f<|Mx g<|Mt f<|Kt 0 f<|Kt 0 f<|Kt 0 f<|Kt 0 f<|Mx (bJ aJ (by(simp only[oN,lM,lS]at *;omega):za0<(I).length))<|Mt f<|Kt 0 f<|Kt 0 f<|Kh 0 b<|MV f<|Mh b<|Kj 0 c.item (gD I za0).i (fun f _=>Kt 0 f<|Kt 0 f<|Mx g<|Mt f<|Kt 0 f<|Kt 0 f<|Kt 0 f<|Kh 0 b<|MV f<|My b<|Kl 2 48 (ji a)<|Kf 0<|e (ak c.it.kind 0)<|by(simp_all[WS];done)) fun c _=>Mh c<|Mh c<|Mh c<|Mh c<|Mh c<|Mh c<|Mh b<|My c<|My b<|Kl 2 48 (ji a)<|Kf 0<|e false<|by(simp_all[WS];done)) fun c _=>Mh c<|Mh c<|Mh c<|Mh c<|Mh c<|Mh c<|Mh c<|Mh c<|Mh c<|Mh c<|Mh b<|My c<|Mh b<|Kh 0 (aK false)<|Mh (aK false)<|Mh (aK false)<|Mh (aK false)<|Mh (aK false)<|Mh (aK false)<|Mh (aK false)<|Mh b<|Kw 0 b<|Kl 2 48 (ji a)<|Kf 0<|e false<|by(simp_all[WS];done)) fun _ _=>Kp 0 hm<|Mp hc<|Kf 0<|bu<|fK true
theorem T1{x:TUnit}(h:Lc x):oa x:=by
  have z:=h.al
  unfold ec at z
  simp only[aO]at z
  obtain⟨_,_,_,z4,z5,z6⟩:=z
  obtain⟨a1,a2⟩:=m7.1 z4
  obtain⟨b1,b2⟩:=m7.1 z5
  have wl:∀s:aE,gG s=true→s.length≤2^39:=fun s hs=>by
    unfold gG at hs
    simp only[aO]at hs
    have:=af (OO hs.2.1)
    simp only[oN]at this;omega
  refine⟨by omega,by omega,?_,fun w hw=>wl _ (a2 w hw),fun w hw=>wl _ (b2 w hw)⟩
  cases e:ak x.kind 0 with
  | true=>
    rw[e,cond_true,aO]at z6
    rw[Dx z6.1];decide
  |false=>rw[e,cond_false]at z6;exact bL (Ay z6) (by decide)
theorem Ij:∀(l:List PDeed)(u:TUnit)(S T:Int→Int→Prop),OkB u→(∀d,d∈l→vR d.it∧¬S d.act d.item)→l.Pairwise (fun d e=>¬(e.act=d.act∧e.item=d.item))→vg S T u→Rg u→XK u→Rg (c8 u l)∧XK (c8 u l)∧(c8 u l).kind=u.kind∧ah (c8 u l)=ah u∧vg (fun _ _=>True) (fun a i=>T a i∨∃e,e∈l∧e.act=a∧e.item=i∧e.it.kind=0) (c8 u l)
  |[],u,S,T,hu,_,_,hm,hr,hn=>⟨hr,hn,rfl,rfl,Eg hm (fun _ _ _=>trivial) fun _ _ h=>.inl h⟩
  | d::r,u,S,T,hu,hl,hp,hm,hr,hn=>by
    obtain⟨h1,h2⟩:=hl d (eG ..)
    obtain⟨p1,p2⟩:=kJ.1 hp
    obtain⟨ht,hq⟩:=PI hu h1
    have hm2:=ht.mks (fun a i=>S a i∨(a=d.act∧i=d.item)) (fun a i=>T a i∨(d.it.kind=0∧a=d.act∧i=d.item)) (.inr ⟨rfl,rfl⟩) (fun h=>.inr ⟨h,rfl,rfl⟩) (Eg hm (fun _ _ h=>.inl h) fun _ _ h=>.inl h)
    have hl2:∀e,e∈r→vR e.it∧¬(S e.act e.item∨(e.act=d.act∧e.item=d.item)):=fun e he=>by
      obtain⟨a1,a2⟩:=hl e (eQ _ he)
      exact⟨a1,fun h=>h.elim a2 (p1 e he)⟩
    obtain⟨q1,q2,q3,q4,q5⟩:=Ij r (oc u d) _ _ (F4 hu h1) hl2 p2 hm2 (hq.rg hr) (hq.mn hn (aa4 hm h2))
    refine⟨q1,q2,q3.trans hq.kd,q4.trans ht.root,Eg q5 (fun _ _ h=>h) fun a i h=>?_⟩
    rcases h with(h|⟨h0,h3,h4⟩)|⟨e,e1,e2,e3,e4⟩
    · exact .inl h
    · exact .inr ⟨d,eG ..,h3.symm,h4.symm,h0⟩
    · exact .inr ⟨e,eQ _ e1,e2,e3,e4⟩
theorem JG(day:Int)(p:aE)(gs:List PGaz):(pE day p gs).Pairwise fun d e=>¬(e.act=d.act∧e.item=d.item):=
  List.Pairwise.imp_of_mem (fun{d e} hd he h hc=>by
    have:=SE (yC.1 hd).1 (yC.1 he).1 hc.1 hc.2
    subst this
    unfold XY at h;omega) ((H4 gs).filter _)
theorem YC:Rg qh:=Cp ⟨rfl,fun k hk=>(by cases hk),List.nodup_nil⟩ fun k hk=>by cases hk
theorem YD:XK qh:=by
  show(fl pm qh).Nodup
  rw[ng]
  show([]++ym pm []).Nodup
  rw[EI];exact List.nodup_nil
/-- The law of uniqueness, whole. -/
theorem yT(day:Int)(p:aE)(gs:List PGaz)(hf:qq gs)(haw:kP 9 [] (.bool true)):kP 4 [iV day,.str p,.ls (gs.map bZ)] (.bool true):=by
  have hw:=VR gs p hf
  cases hb:Oe gs p with
  |false=>rw[hb]at hw;exact Xx day p gs haw hw
  | true=>
    rw[hb]at hw
    have ok:=(XM hf hb).1
    have hB:=ok.okB day p
    obtain⟨hg,hn,hk,hr,hm⟩:=Ij (pE day p gs) qh (fun _ _=>False) (fun _ _=>False) J6 (fun d hd=>⟨(ok.force day p).2.1 d hd,id⟩) (JG day p gs) YE YC YD
    have hX:c8 qh (pE day p gs)=jQ day p gs:=rfl
    rw[hX]at hg hn hk hr hm
    have h20:nU (jQ day p gs)≤2^20:=bL hB.n (by decide)
    have hl:(dM (jQ day p gs)).length≤2^20:=by
      rw[Bc]
      have z:=Ar (B:=600) (l:=bW (jQ day p gs)) fun x hx=>by
        have:=hB.w x hx;unfold fc;rw[lA];omega
      have h3:(bW (jQ day p gs)).length=nU (jQ day p gs):=by rw[jE];unfold cR;rw[lM]
      have:=hB.n;omega
    have hi:(ah (jQ day p gs)::bx (jQ day p gs).kids).length<2^30:=by rw[←gQ,←jE];omega
    have r1:=Ns _ h20 fun x hx=>T1 (hg x hx)
    rw[QJ _ hg]at r1
    have r2:=Vn _ h20
    have e2:Vm (jQ day p gs)=true:=by
      have e4:mp [] (cR (jQ day p gs))=true:=zF (by rw[qW];exact hB.nd)
      unfold Vm
      rw[hr,hk,e4,se];exact .inr rfl
    rw[e2]at r2
    have r3:=Uu ((dM (jQ day p gs)).map sy) (by rw[lM];omega)
    have e3:(dM (jQ day p gs)).map sy=fl pm (jQ day p gs):=by rw[Bc,List.map_flatMap];rfl
    rw[Lh (by rw[e3];exact hn) fun _ _=>rfl,List.map_map]at r3
    refine Xj day p gs (jQ day p gs) (pE day p gs) (dM (jQ day p gs)) _ haw hw (ok.book day p) r1 r2 (M7 _ h20) (ok.force day p).2.2 (Q9 _ h20 hl) r3 (ok.force day p).1 hi fun k hk hk2=>?_
    cases k with
    |zero=>cases hk
    | succ k=>
      have hk3:k<(bx (jQ day p gs).kids).length:=by simpa using hk2
      have e:gD (ah (jQ day p gs)::bx (jQ day p gs).kids) (k+1)=gD (bx (jQ day p gs).kids) k:=rfl
      rw[e]
      have hmm:=fp hk3
      have hu:gD (bx (jQ day p gs).kids) k∈cR (jQ day p gs):=by rw[gQ];exact eQ _ hmm
      unfold cR at hu
      obtain⟨x,hx,hxe⟩:=fE.1 hu
      rcases(hm x hx).2 with q|q|⟨d,d1,d2,d3,d4⟩
      · exfalso
        have hnd:=hB.nd
        rw[gQ]at hnd
        refine(tD.1 hnd).1 ?_
        rw[hr,show ah qh=ah x from q.symm,hxe];exact hmm
      · exact q.elim
      · rw[←hxe]
        refine List.any_eq_true.2 ⟨d,d1,?_⟩
        unfold WS
        rw[show(ah x).a=x.act from rfl,show(ah x).i=x.item from rfl,d2,d3,d4,ba,ba];rfl
end Go.Proofs.YtidehekfpcgelaaGreatDoor
