/- Functions walked: what each of them answers, for the law of disjoint versions: part 7. Conditions: those that each theorem names. -/
import Derived.Test.YtjokefckffbpeaaGreatDoorH6
namespace Go.Proofs.YtjokefckffbpeaaGreatDoor
open Go Go.Ev
noncomputable abbrev n5(ep:Nat)(out:List Int):AObj:=.row 1 true ep (out.map ak)
theorem wH:kP 20 [.nils] (.ls ((fc []).map aJ)):=(fV [] (by simp)).onArgs (.cons Le.nils .nil)
theorem Dd{g:Int→Bool}{K:List Int}{x e:Nat}{S:List PSpan}(h:S=kY g (K.drop (x-1)))(h1:1≤x)(h2:x<K.length)(hg:g (gD K (x-1))=true)(he:e=x+1):S=⟨gD K (x-1),gD K x⟩::kY g (K.drop (e-1)):=by rw[h,CV h1 h2,hg,he]
theorem De{g:Int→Bool}{K:List Int}{x e:Nat}{S:List PSpan}(h:S=kY g (K.drop (x-1)))(h1:1≤x)(h2:x<K.length)(hg:g (gD K (x-1))=false)(he:e=x+1):S=kY g (K.drop (e-1)):=by rw[h,CV h1 h2,hg,he]
theorem YD:bZ (c8 (pb []))=[]:=qJ (by have z:=Ao [];exact Nat.le_zero.1 z)
theorem XV{A B x y:List PSpan}(h1:A=x)(h2:B=y):x++y=A++B:=by rw[h1,h2]
theorem RM{A B x:List PSpan}(h1:A=x)(h2:B=[]):x=A++B:=by rw[h1,h2,ec]
theorem Vr{A B y:List PSpan}(h1:A=[])(h2:B=y):y=A++B:=by rw[h1,h2];rfl
theorem TG{A r:List PSpan}{w:PSpan}(h:A=w::r)(hl:A.length≤1048577):r.length<2^30:=by rw[h,lC]at hl;omega
theorem S0{A B:List PSpan}{w v:PSpan}{r s:List PSpan}(h:A=w::r)(k:B=v::s)(hl:A.length≤1048577)(kl:B.length≤1048577):small (r.length+1+((v::s).map aJ).length) 16=true:=by
  rw[h,lC]at hl;rw[k,lC]at kl
  rw[lM,lC];refine cj (m:=2^31) ?_ ?_ ?_<;>omega
theorem J3{B:List PSpan}{v:PSpan}{s:List PSpan}(k:B=v::s)(kl:B.length≤1048577):small ((v::s).map aJ).length 16=true:=by
  rw[k,lC]at kl
  rw[lM,lC];refine cj (m:=2^31) ?_ ?_ ?_<;>omega
def RT(F:Nat)(A:List PSpan)(B:List PSpan)(z20:List PSpan):Prop:=z20=A++B
noncomputable def RS(F:Nat)(A:List PSpan)(B:List PSpan)(z20:List PSpan):List AV×List AObj:=([AV.ls (A.map aJ),AV.ls (B.map aJ),AV.func (Fn.func F) [] [],AV.nils,AV.ls (z20.map aJ),nV z20.length,iV 0],[])
def N2(F:Nat)(A:List PSpan)(B:List PSpan)(z20:List PSpan)(z37:List Int):Prop:=z37=ii z20
noncomputable def N1(F:Nat)(A:List PSpan)(B:List PSpan)(z20:List PSpan)(z37:List Int):List AV×List AObj:=([AV.ls (A.map aJ),AV.ls (B.map aJ),AV.func (Fn.func F) [] [],AV.ls (z37.map ak)],[])
def N0(F:Nat)(A:List PSpan)(B:List PSpan)(z20:List PSpan)(z37:List Int):Prop:=z37=ii z20
noncomputable def NT(F:Nat)(A:List PSpan)(B:List PSpan)(z20:List PSpan)(z37:List Int):List AV×List AObj:=([AV.ls (A.map aJ),AV.ls (B.map aJ),AV.func (Fn.func F) [] [],AV.ls (z37.map ak)],[])
theorem LB(F:Nat)(op:Bool→Bool→Bool)(hF:∀x y,aR Tryz.prog G F [.bool x,.bool y] (.bool (op x y)))(e0:op false false=false)(a b:List PSpan)(ha:a.length<2^30)(hb:b.length<2^30):
    aR Tryz.prog G 138 [.ls (a.map aJ),.ls (b.map aJ),.func (.func F) [] []] (.ls ((sU op a b).map aJ)):=by
  have nA:=fV a ha
  have nB:=fV b hb
  have hA:=jT a
  have hB:=jT b
  have hd:=N3 e0 (a:=a) (b:=b) rfl rfl
  generalize fc a=A at *
  generalize fc b=B at *
  have lA:=hA.len
  have lB:=hB.len
  have hasA:∀d,aR Tryz.prog G 111 [.ls (A.map aJ),.int .i64 d] (.bool (iI A d)):=fun d=>I3 A d hA.sort (by omega)
  have hasB:∀d,aR Tryz.prog G 111 [.ls (B.map aJ),.int .i64 d] (.bool (iI B d)):=fun d=>I3 B d hB.sort (by omega)
  obtain⟨g,hg⟩:∃g:Int→Bool,g=fun d=>op (iI A d) (iI B d):=⟨_,rfl⟩
  have hgv:∀d v0,op (iI A d) (iI B d)=v0→g d=v0:=fun d v0 h=>by rw[hg];exact h
  rw[←hg]at hd
  have hcl:∀x,x=A++B→(ii x).length<2^30:=fun x hx=>by
    have z:=Ao x
    rw[hx,dI]at z
    rw[hx];omega
  have hll:∀x,x=A++B→x.length<2^22:=fun x hx=>by rw[hx,dI];omega
  obtain⟨res,hres⟩:∃res,res=sU op a b:=⟨_,rfl⟩
  rw[←hres]at hd ⊢
  have hdone:∀x y z,x=A++B→y=ii x→kY g y=z→fc z=res:=fun x y z h1 h2 h3=>by rw[←h3,h2,h1];exact hd
  clear hd hg hres hA hB
  have rr0 b' (h:(List.map aJ res)=b':=by first|rfl|exact hdone _ _ _ hz20 hz37 (by rw[hx1.2.2,lY hx1.1 (by(first|omega|(simp only[aP]at *;omega)))])|exact(hdone _ _ _ hz20 hz37 (by rw[hx1.2.2.2.2,lY hx1.1 (by(first|omega|(simp only[aP]at *;omega))),ec]))|(rw[hdone _ _ _ hz20 hz37 (by rw[hx1.2.2,lY hx1.1 (by(first|omega|(simp only[aP]at *;omega)))])])|(rw[hdone _ _ _ hz20 hz37 (by rw[hx1.2.2.2.2,lY hx1.1 (by(first|omega|(simp only[aP]at *;omega))),ec])])):=h;exact bM Tryz.func138<|Kp 1 nA<|Kp 0 nB<|Mg 2<|M0 .inn<|Mj (List PSpan) [0,1,2,7,20,21,22] (RS F A B) (RT F A B) (fun c=>Mg 0<|Mc A (fun e=>Ml 17 (fj<|by rw[e];rfl:Le (aW []) (aW (List.map aJ A)))<|Mz 17 (fun(_:([]:List AV)=[])=>Mg 1<|Mc B (fun e=>Ml 19 (fj<|by rw[e];rfl:Le (aW []) (aW (List.map aJ B)))<|Kl 0 20 bL<|Kf 1<|c [] (by exact RM (by assumption) (by assumption):[]=A++B)) fun e f i=>Ml 19 (fj<|by rw[i]:Le (aW (List.map aJ (e::f))) (aW (List.map aJ B)))<|M2 .apl (et (by exact mJ _ _:List.map aJ (e::f)≠[])<|fM 2 aJ (e::f) fun _=>rfl) (by exact J3 (by assumption) lB:small (List.map aJ (e::f)).length 16=true)<|M2 (.fsl 0 [0,1,2,7] 20<|List.map aJ<|e::f) True.intro (b6 (aY 0) (tA aJ (e::f) (List.map aJ<|e::f).length (by(simp only[cQ,cT,dI];done):(e::f).length=(List.map aJ (e::f)).length))<|aX Vl<|e::f)<|Ml 20 (eT (List.map aJ<|e::f) false<|aX Vl<|e::f)<|Kl 0 21 (ln aJ<|e::f)<|Kf 0<|c (e::f) (by exact Vr (by assumption) (by assumption):e::f=A++B))<|Mg 1<|Mc B (fun e=>Ml 19 (fj<|by rw[e];rfl:Le (aW []) (aW (List.map aJ B)))<|Kl 0 20 (eT [] true (aY 0:aq ([])=0))<|Kf 1<|c [] (by exact RM (by assumption) (by assumption):[]=A++B)) fun e f i=>Ml 19 (fj<|by rw[i]:Le (aW (List.map aJ (e::f))) (aW (List.map aJ B)))<|M2 .apl (et (by exact mJ _ _:List.map aJ (e::f)≠[])<|fM 2 aJ (e::f) fun _=>rfl) (by exact J3 (by assumption) lB:small (List.map aJ (e::f)).length 16=true)<|M2 (.fsl 0 [0,1,2,7] 20<|List.map aJ<|e::f) True.intro (b6 (aY 0) (tA aJ (e::f) (List.map aJ<|e::f).length (by(simp only[cQ,cT,dI];done):(e::f).length=(List.map aJ (e::f)).length))<|aX Vl<|e::f)<|Ml 20 (eT (List.map aJ<|e::f) false<|aX Vl<|e::f)<|Kl 0 21 (ln aJ<|e::f)<|Kf 0<|c (e::f) (by exact Vr (by assumption) (by assumption):e::f=A++B)) fun e f i=>Ml 17 (fj<|by rw[i]:Le (aW (List.map aJ (e::f))) (aW (List.map aJ A)))<|Me (Ru e f<|by exact TG (by assumption) lA)<|Mg 0<|Mc B (fun i=>Ml 19 (fj<|by rw[i];rfl:Le (aW []) (aW (List.map aJ B)))<|Mg 0<|M2 (.fsl 0 [0,1,2,7] 20<|List.map aJ<|e::f) True.intro (b6 (aY 0) (tA aJ (e::f) (f.length+1) rfl)<|aX Vl<|e::f)<|Ml 20 (eT (List.map aJ<|e::f) false<|aX Vl<|e::f)<|Kl 0 21 (ln aJ<|e::f)<|Kf 0<|c (e::f) (by exact RM (by assumption) (by assumption):e::f=A++B)) fun i j k=>Ml 19 (fj<|by rw[k]:Le (aW (List.map aJ (i::j))) (aW (List.map aJ B)))<|M2 .apl (et (by exact mJ _ _:List.map aJ (i::j)≠[])<|fM 2 aJ (i::j) fun _=>rfl) (b6 (aY 0) (by(simp only[cQ,cT,dI];done):f.length+1=(List.map aJ (e::f)).length) (by exact S0 (by assumption) (by assumption) lA lB:small (f.length+1+(List.map aJ (i::j)).length) 16=true))<|M1 (.obj 0<|aZ 2 true (0+1)<|List.map aJ<|e::f++i::j) (congrArg (aZ 2 true<|0+1)<|co (f:=aJ) (l:=e::f) (ws:=i::j))<|M2 (.fsl 0 [0,1,2,7] 20<|List.map aJ<|e::f++i::j) True.intro (b6 (aY<|0+1) (tA aJ (e::f++i::j) (f.length+1+(List.map aJ<|i::j).length) (by(simp only[cQ,cT,dI];done):(e::f++i::j).length=f.length+1+(List.map aJ (i::j)).length))<|aX Vl<|e::f++i::j)<|Ml 20 (eT (List.map aJ<|e::f++i::j) false<|aX Vl<|e::f++i::j)<|Kl 0 21 (ln aJ<|e::f++i::j)<|Kf 0<|c (e::f++i::j) (by exact XV (by assumption) (by assumption):e::f++i::j=A++B)) fun c hz20=>have hz20:=hz20;kr Nat Nat (List Int) aJ c [0,1,2,7,20,21,22] (fun e _=>([aW<|A.map aJ,aW<|B.map aJ,bU (bY F) [] [],ab,aW<|c.map aJ,nV c.length,nV e],[])) (fun e _ f i j=>([aW<|A.map aJ,aW<|B.map aJ,bU (bY F) [] [],aE 0 f 0 i none,aW<|c.map aJ,nV c.length,nV e],[aZ 1 true f<|j.map ak])) (fun e=>pb c=pb e) (fun e _ f i=>f=i.length∧(0:Nat)<i.length∧pb c=i++pb e) (by rfl) (fun _ _ _ _ _ e f=>Kh 0 e<|Kp 0 Gq<|Mj (List Int) [0,1,2,7] (N1 F A B c) (N2 F A B c) (fun e=>Kl 1 37 bL<|Kf 0<|e [] (by(unfold ii;rw[f];exact YD.symm):[]=ii c)) fun e hz37=>have hz37:=hz37;have:=hz37▸hcl _ hz20;Mg 1<|Sg Nat Nat Nat (List PSpan) (1:Nat) [0,1,2,7,10,11] (fun c=>([aW<|A.map aJ,aW<|B.map aJ,bU (bY F) [] [],aW<|e.map ak,ab,nV c],[])) (fun c f i j=>([aW<|A.map aJ,aW<|B.map aJ,bU (bY F) [] [],aW<|e.map ak,aE 0 f 0 i none,nV c],[aZ 2 true f<|j.map aJ])) (fun c=>(1:Nat)≤c∧c≤2^30∧kY g e=kY g (e.drop<|c-1)) (fun c _ f i=>(1:Nat)≤c∧c≤2^30∧f=i.length∧i.length<c∧kY g e=i++kY g (e.drop<|c-1)) (fun c=>2^31-c) (fun c _ _ _=>2^31-c) (by exact⟨ao _,by omega,rfl⟩) (fun c hx1 f i=>have hx1:=hx1;have:=hx1.1;have:=hx1.2.1;Kl 2 40 (ln ak e)<|Ka 0 (Int.ofNat c) (Int.ofNat e.length) (fun _ _=>Kl 2 46 (sk c)<|Mx (aI ak (by(simp only[aP,cQ,jI]at *;omega):c-1<(e).length))<|Kp 4 (hasA<|gD e<|c-1)<|Kp 1 (hasB<|gD e<|c-1)<|Mp (hF (iI A<|gD e<|c-1)<|iI B<|gD e<|c-1)<|Mb (op (iI A<|gD e<|c-1)<|iI B<|gD e<|c-1) (fun _=>Kx 3 (aI ak (by(simp only[aP,cQ,jI]at *;omega):c<(e).length))<|Kl 6 43 (gc c)<|Kf 0<|i (c+1) 0 1 [PSpan.mk (gD e<|c-1)<|gD e c] (by exact⟨by(omega),by(simp only[aP]at *;omega),rfl,by(simp only[cT,gL];omega),Dd hx1.2.2 hx1.1 (by(simp only[aP]at *;omega)) (hgv _ _ (by assumption)) rfl⟩)<|by(omega)) fun _=>Kl 1 43 (gc c)<|Kf 0<|f (c+1) (by exact⟨by(omega),by(simp only[aP]at *;omega),De hx1.2.2 hx1.1 (by(simp only[aP]at *;omega)) (hgv _ _ (by assumption)) rfl⟩)<|by(omega)) fun _ _=>Kp 0 wH<|Kf 0<|cV<|rr0<|List.map aJ<|fc []) fun c i j k hx1 _ l=>have hx1:=hx1;have:=hx1.1;have:=hx1.2.1;Kl 2 40 (ln ak e)<|Ka 0 (Int.ofNat c) (Int.ofNat e.length) (fun _ _=>Kl 2 46 (sk c)<|Mx (aI ak (by(simp only[aP,cQ,jI]at *;omega):c-1<(e).length))<|Kp 4 (hasA<|gD e<|c-1)<|Kp 1 (hasB<|gD e<|c-1)<|Mp (hF (iI A<|gD e<|c-1)<|iI B<|gD e<|c-1)<|Mb (op (iI A<|gD e<|c-1)<|iI B<|gD e<|c-1) (fun _=>Kx 3 (aI ak (by(simp only[aP,cQ,jI]at *;omega):c<(e).length))<|K1 2 .app (b6 (aY i) (by(rw[cQ];first|exact f.1|exact hx1.2.2.1):j=(List.map aJ k).length) (by(refine cj (m:=2^31) ?_ ?_ ?_<;>first|omega|(simp only[cQ,cT,dI,gL];omega)|(have z:=congrArg List.length f.2.2;rw[ki,dI]at z;have z9:=hll _ hz20;have z2:=f.1;first|omega|(simp only[cT,gL];omega))|(have z:=hx1.2.2.2.1;have z2:=hx1.2.2.1;have z3:=hx1.2.1;first|omega|(simp only[cT,gL];omega))):small (j+1) 16=true))<|M1 (.obj 0<|aZ 2 true (i+1)<|List.map aJ<|k++[PSpan.mk (gD e<|c-1)<|gD e c]) (congrArg (aZ 2 true<|i+1)<|co (f:=aJ) (l:=k) (ws:=[PSpan.mk (gD e<|c-1)<|gD e c]))<|Kl 2 43 (gc c)<|Kf 0<|l (c+1) (i+1) (j+1) (k++[PSpan.mk (gD e<|c-1)<|gD e c]) (by exact⟨by(omega),by(simp only[aP]at *;omega),by rw[dI,←hx1.2.2.1];rfl,by(have z:=hx1.2.2.2.1;simp only[dI,cT,gL];omega),by rw[hx1.2.2.2.2,Dd rfl hx1.1 (by(simp only[aP]at *;omega)) (hgv _ _ (by assumption)) rfl];simp⟩)<|by(omega)) fun _=>Kl 1 43 (gc c)<|Kf 0<|l (c+1) i j k (by exact⟨by(omega),by(simp only[aP]at *;omega),hx1.2.2.1,by(have z:=hx1.2.2.2.1;omega),by rw[hx1.2.2.2.2,De rfl hx1.1 (by(simp only[aP]at *;omega)) (hgv _ _ (by assumption)) rfl]⟩)<|by(omega)) fun _ _=>Mg 0<|M2 (.fsl 0 [] 66<|List.map aJ k) True.intro (b6 (aY i) (tA aJ k j (by(omega):(k).length=j))<|aX Vl k)<|Ml 66 (eT (List.map aJ k) false<|aX Vl k)<|Mp (fV k<|by(omega))<|Kf 0<|cV<|rr0<|List.map aJ<|fc k) (fun e _ _ _ f i _ j _ k _ l n=>have:=hll _ hz20;Kt 0 k<|Mx l<|Kl 11 33 (gc e)<|Mg 0<|M0 (.ren [1,0] [] [0,1,2,7,20,21,22])<|M1 (.frz 1 [0,1,2,7,20,21,22]) (et (aY true) True.intro)<|Mf<|j 0 2 [f.from_,f.to]<|by exact⟨rfl,by simp,by rw[n];rfl⟩) (fun _ _ e f i _ _ _ j k=>Kh 0 j<|Ke 0 (IR i e f (by(omega)) (by(omega))<|by(have z:=congrArg List.length k.2.2;rw[ki,dI]at z;have z9:=hll _ hz20;omega))<|Mj (List Int) [0,1,2,7] (NT F A B c) (N0 F A B c) (fun j=>Ke 0 (Bm (c8 i) e f (by(rw[(iF _).length_eq];first|exact k.1|exact k.2.1|(have z:=congrArg List.length k.2.2;rw[ki,dI]at z;have z9:=hll _ hz20;omega))) (by(rw[(iF _).length_eq];first|exact k.1|exact k.2.1|(have z:=congrArg List.length k.2.2;rw[ki,dI]at z;have z9:=hll _ hz20;omega)))<|by(rw[(iF _).length_eq];first|exact k.1|exact k.2.1|(have z:=congrArg List.length k.2.2;rw[ki,dI]at z;have z9:=hll _ hz20;omega)))<|M2 (.fsl 0 [0,1,2] 37<|List.map ak<|List.take (bZ<|c8 i).length<|bZ (c8 i)++List.replicate ((c8 i).length -(bZ<|c8 i).length) 0) True.intro (b6 (aY e) (wm (f:=ak) (l:=bZ (c8 i)++List.replicate ((c8 i).length -(bZ<|c8 i).length) 0) (n:=(bZ<|c8 i).length))<|aX Jx<|List.take (bZ<|c8 i).length<|bZ (c8 i)++List.replicate ((c8 i).length -(bZ<|c8 i).length) 0)<|Ml 37 (eT (List.map ak<|List.take (bZ<|c8 i).length<|bZ (c8 i)++List.replicate ((c8 i).length -(bZ<|c8 i).length) 0) false<|aX Jx<|List.take (bZ<|c8 i).length<|bZ (c8 i)++List.replicate ((c8 i).length -(bZ<|c8 i).length) 0)<|Kf 0<|j (List.take (bZ<|c8 i).length<|bZ (c8 i)++List.replicate ((c8 i).length -(bZ<|c8 i).length) 0) (by(unfold ii;rw[k.2.2];simp[pb]):List.take (bZ (c8 i)).length (bZ (c8 i)++List.replicate ((c8 i).length -(bZ (c8 i)).length) (0:Int))=ii c)) fun e hz37=>have hz37:=hz37;have:=hz37▸hcl _ hz20;Mg 1<|Sg Nat Nat Nat (List PSpan) (1:Nat) [0,1,2,7,10,11] (fun c=>([aW<|A.map aJ,aW<|B.map aJ,bU (bY F) [] [],aW<|e.map ak,ab,nV c],[])) (fun c f i j=>([aW<|A.map aJ,aW<|B.map aJ,bU (bY F) [] [],aW<|e.map ak,aE 0 f 0 i none,nV c],[aZ 2 true f<|j.map aJ])) (fun c=>(1:Nat)≤c∧c≤2^30∧kY g e=kY g (e.drop<|c-1)) (fun c _ f i=>(1:Nat)≤c∧c≤2^30∧f=i.length∧i.length<c∧kY g e=i++kY g (e.drop<|c-1)) (fun c=>2^31-c) (fun c _ _ _=>2^31-c) (by exact⟨ao _,by omega,rfl⟩) (fun c hx1 f i=>have hx1:=hx1;have:=hx1.1;have:=hx1.2.1;Kl 2 40 (ln ak e)<|Ka 0 (Int.ofNat c) (Int.ofNat e.length) (fun _ _=>Kl 2 46 (sk c)<|Mx (aI ak (by(simp only[aP,cQ,jI]at *;omega):c-1<(e).length))<|Kp 4 (hasA<|gD e<|c-1)<|Kp 1 (hasB<|gD e<|c-1)<|Mp (hF (iI A<|gD e<|c-1)<|iI B<|gD e<|c-1)<|Mb (op (iI A<|gD e<|c-1)<|iI B<|gD e<|c-1) (fun _=>Kx 3 (aI ak (by(simp only[aP,cQ,jI]at *;omega):c<(e).length))<|Kl 6 43 (gc c)<|Kf 0<|i (c+1) 0 1 [PSpan.mk (gD e<|c-1)<|gD e c] (by exact⟨by(omega),by(simp only[aP]at *;omega),rfl,by(simp only[cT,gL];omega),Dd hx1.2.2 hx1.1 (by(simp only[aP]at *;omega)) (hgv _ _ (by assumption)) rfl⟩)<|by(omega)) fun _=>Kl 1 43 (gc c)<|Kf 0<|f (c+1) (by exact⟨by(omega),by(simp only[aP]at *;omega),De hx1.2.2 hx1.1 (by(simp only[aP]at *;omega)) (hgv _ _ (by assumption)) rfl⟩)<|by(omega)) fun _ _=>Kp 0 wH<|Kf 0<|cV<|rr0<|List.map aJ<|fc []) fun c f i j hx1 _ l=>have hx1:=hx1;have:=hx1.1;have:=hx1.2.1;Kl 2 40 (ln ak e)<|Ka 0 (Int.ofNat c) (Int.ofNat e.length) (fun _ _=>Kl 2 46 (sk c)<|Mx (aI ak (by(simp only[aP,cQ,jI]at *;omega):c-1<(e).length))<|Kp 4 (hasA<|gD e<|c-1)<|Kp 1 (hasB<|gD e<|c-1)<|Mp (hF (iI A<|gD e<|c-1)<|iI B<|gD e<|c-1)<|Mb (op (iI A<|gD e<|c-1)<|iI B<|gD e<|c-1) (fun _=>Kx 3 (aI ak (by(simp only[aP,cQ,jI]at *;omega):c<(e).length))<|K1 2 .app (b6 (aY f) (by(rw[cQ];first|exact k.1|exact hx1.2.2.1):i=(List.map aJ j).length) (by(refine cj (m:=2^31) ?_ ?_ ?_<;>first|omega|(simp only[cQ,cT,dI,gL];omega)|(have z:=congrArg List.length k.2.2;rw[ki,dI]at z;have z9:=hll _ hz20;have z2:=k.1;first|omega|(simp only[cT,gL];omega))|(have z:=hx1.2.2.2.1;have z2:=hx1.2.2.1;have z3:=hx1.2.1;first|omega|(simp only[cT,gL];omega))):small (i+1) 16=true))<|M1 (.obj 0<|aZ 2 true (f+1)<|List.map aJ<|j++[PSpan.mk (gD e<|c-1)<|gD e c]) (congrArg (aZ 2 true<|f+1)<|co (f:=aJ) (l:=j) (ws:=[PSpan.mk (gD e<|c-1)<|gD e c]))<|Kl 2 43 (gc c)<|Kf 0<|l (c+1) (f+1) (i+1) (j++[PSpan.mk (gD e<|c-1)<|gD e c]) (by exact⟨by(omega),by(simp only[aP]at *;omega),by rw[dI,←hx1.2.2.1];rfl,by(have z:=hx1.2.2.2.1;simp only[dI,cT,gL];omega),by rw[hx1.2.2.2.2,Dd rfl hx1.1 (by(simp only[aP]at *;omega)) (hgv _ _ (by assumption)) rfl];simp⟩)<|by(omega)) fun _=>Kl 1 43 (gc c)<|Kf 0<|l (c+1) f i j (by exact⟨by(omega),by(simp only[aP]at *;omega),hx1.2.2.1,by(have z:=hx1.2.2.2.1;omega),by rw[hx1.2.2.2.2,De rfl hx1.1 (by(simp only[aP]at *;omega)) (hgv _ _ (by assumption)) rfl]⟩)<|by(omega)) fun _ _=>Mg 0<|M2 (.fsl 0 [] 66<|List.map aJ j) True.intro (b6 (aY f) (tA aJ j i (by(omega):(j).length=i))<|aX Vl j)<|Ml 66 (eT (List.map aJ j) false<|aX Vl j)<|Mp (fV j<|by(omega))<|Kf 0<|cV<|rr0<|List.map aJ<|fc j) fun e _ f i j _ _ k l _ n _ o _ p q=>have:=hll _ hz20;Kt 0 o<|Mx p<|K1 8 .app (b6 (aY f) (by(rw[cQ];first|exact q.1|exact hx1.2.2.1):i=(List.map ak j).length) (by(refine cj (m:=2^31) ?_ ?_ ?_<;>first|omega|(simp only[cQ,cT,dI,gL];omega)|(have z:=congrArg List.length q.2.2;rw[ki,dI]at z;have z9:=hll _ hz20;have z2:=q.1;first|omega|(simp only[cT,gL];omega))|(have z:=hx1.2.2.2.1;have z2:=hx1.2.2.1;have z3:=hx1.2.1;first|omega|(simp only[cT,gL];omega))):small (i+2) 8=true))<|M1 (.obj 0<|aZ 1 true (f+1)<|List.map ak<|j++[k.from_,k.to]) (congrArg (aZ 1 true<|f+1)<|co (f:=ak) (l:=j) (ws:=[k.from_,k.to]))<|Kl 1 33 (gc e)<|K1 0 (.frz 1 [0,1,2,7,20,21,22]) (et (tR 1 true (f+1) 1<|aX Jx<|j++[k.from_,k.to]) True.intro)<|Mf<|n (f+1) (i+2) (j++[k.from_,k.to])<|by exact⟨by rw[dI,←q.1];rfl,by simp,by rw[q.2.2,CS];simp⟩
theorem WZ(x y:Bool):kP 139 [.bool x,.bool y] (.bool (x||y)):=by
  have rr0 b' (h:(x||y)=b':=by simp only[aS,ax,bS, *]):=h;exact bM Tryz.func139<|Kb 2 x (fun a=>MV a<|Ky 0<|rr0 true) fun a=>Kw 0 a<|Ky 0<|rr0 y
theorem U5(x y:Bool):kP 140 [.bool x,.bool y] (.bool (x&&y)):=by
  have rr0 b' (h:(x&&y)=b':=by simp only[aS,ax,bS, *]):=h;exact bM Tryz.func140<|Kb 2 x (fun a=>Ku 0 a<|Ky 0<|rr0 y) fun a=>My a<|Ky 0<|rr0 false
theorem OD(a b:List PSpan)(ha:a.length<2^30)(hb:b.length<2^30):kP 118 [.ls (a.map aJ),.ls (b.map aJ)] (.ls ((sU (· || ·) a b).map aJ)):=by
  have h:=LB 139 (· || ·) WZ rfl a b ha hb
  exact bM Tryz.func118<|Kp 2 h<|Kf 0<|bp<|aW<|(sU (fun c d=>c||d) a b).map aJ
theorem Qd(a b:List PSpan)(ha:a.length<2^30)(hb:b.length<2^30):kP 120 [.ls (a.map aJ),.ls (b.map aJ)] (.ls ((sU (· && ·) a b).map aJ)):=by
  have h:=LB 140 (· && ·) U5 rfl a b ha hb
  exact bM Tryz.func120<|Kp 2 h<|Kf 0<|bp<|aW<|(sU (fun c d=>c&&d) a b).map aJ
noncomputable def oP(a:List PSpan)(d:Int):List PSpan:=sU (· && ·) a [⟨0,d⟩]
noncomputable def pN(a:List PSpan)(d:Int):List PSpan:=sU (· || ·) (oP a d) [⟨d,1048577⟩]
theorem sb(a:List PSpan)(d:Int):NrmS (oP a d):=zc _
theorem uo(a:List PSpan)(d:Int):NrmS (pN a d):=zc _
theorem E9(a:List PSpan)(d:Int)(ha:a.length<2^30):kP 107 [.ls (a.map aJ),iV d] (.ls ((oP a d).map aJ)):=by
  have h:kP 120 [.ls (a.map aJ),.ps [aJ ⟨0,d⟩] true] (.ls ((oP a d).map aJ)):=(Qd a [⟨0,d⟩] ha (by simp)).onArgs (.cons (Le.refl _) (.cons (Le.ps _ _ rfl) .nil))
  exact bM Tryz.func107<|Kp 4 h<|Kf 0<|bp<|aW<|(oP a d).map aJ
theorem RZ(a:List PSpan)(d:Int)(ha:a.length<2^30):kP 105 [.ls (a.map aJ),iV d] (.ls ((pN a d).map aJ)):=by
  have h0:=E9 a d ha
  have hl:=(sb a d).len
  have h:kP 118 [.ls ((oP a d).map aJ),.ps [aJ ⟨d,1048577⟩] true] (.ls ((pN a d).map aJ)):=(OD (oP a d) [⟨d,1048577⟩] (by omega) (by simp)).onArgs (.cons (Le.refl _) (.cons (Le.ps _ _ rfl) .nil))
  exact bM Tryz.func105<|Kp 2 h0<|Kp 2 h<|Kf 0<|bp<|aW<|(pN a d).map aJ
noncomputable def sW(k:Int):Bool:=ah k 7||ah k 9
noncomputable def lQ(k:Int):Bool:=sW k||ah k 8
noncomputable def rP(k:Int):AV:=match sW k with|true=>.func (.func 105) [] []|false=>match ah k 8 with|true=>.func (.func 107) [] []|false=>.nilf
theorem zu(k:Int):eL (some .nilf) true (bc false 1 [(0,1)] (iV k) [⟨iV 7,.func (.func 105) [] [],0⟩,⟨iV 9,.func (.func 105) [] [],1⟩,⟨iV 8,.func (.func 107) [] [],2⟩] 0)=some (.tuple [rP k,.bool (lQ k)]):=by
  unfold rP lQ sW
  simp only[bc,qo,JK,kF]
  cases h1:ah k 7<;>cases h2:ah k 9<;>cases h3:ah k 8<;>rfl
theorem OM{k:Int}(h:sW k=true):Le (.func (.func 105) [] []) (rP k):=by unfold rP;rw[h];exact Le.refl _
theorem SH{k:Int}(h:sW k=false)(h2:lQ k=true):Le (.func (.func 107) [] []) (rP k):=by
  unfold lQ at h2;rw[h,Bool.false_or]at h2
  unfold rP;rw[h,h2];exact Le.refl _
noncomputable def ON:List AEnt:=[⟨iV 7,.func (.func 105) [] [],0⟩,⟨iV 9,.func (.func 105) [] [],1⟩,⟨iV 8,.func (.func 107) [] [],2⟩]
theorem SF(x:PItem):kD 84 [] (av [.row 25 false 0 [eI x]]) (.map 1) (av [.row 25 false 0 [eI x],.map ON 3]):=by
  exact eg Tryz.func84 fun a=>Kf 6 a
theorem SG(s:PStart)(d o:PDeed):kD 84 [] (av [.row 3 false 0 [aw s],.row 28 false 0 [aU d],.row 28 false 0 [aU o]]) (.map 3) (av [.row 3 false 0 [aw s],.row 28 false 0 [aU d],.row 28 false 0 [aU o],.map ON 3]):=by
  exact eg Tryz.func84 fun a=>Kf 6 a
noncomputable def rJ(x:PItem)(a i:Int):Bool:=ah x.act a&&(match ah x.kind 11 with|true=>ah x.item i|false=>lQ x.kind&&(ah x.item i||ah x.item (-1)))
theorem ME(x:PItem)(a i:Int):kP 85 [eI x,iV a,iV i] (.bool (rJ x a i)):=by
  have hlk:=zu
  have rr0 b' (h:(rJ x a i)=b':=by unfold rJ;generalize ah x.act a=p1 at *;generalize ah x.kind 11=p2 at *;generalize ah x.item i=p3 at *;generalize ah x.item (-1)=p4 at *;generalize lQ x.kind=p5 at *;simp only[aS,ax,bS, *]):=h;let q:=[ay [iV x.kind,aW (x.at_.map az),aW (x.to.map az),iV x.where_,iV x.nth_,iV x.unit.act,iV x.unit.item,iV x.unit.n,iV x.unit.kind,aj x.unit.label,aW (x.unit.head.map aQ),aW (x.unit.words.map aQ),aW (x.unit.kids.map aV),aW (x.old.map nW),aW (x.new.map nW),aj x.label,aj x.for_,iV x.start.kind,iV x.start.day,aj x.start.event,iV x.act,iV x.item,iV x.day,aj x.event,aW (x.by_.map NE)]];let q1:=bU (bY 105) [] [];exact bM Tryz.func85<|Kc 5 x.act a (fun _ _=>Ky 0<|rr0 false) fun _ _=>Kj 2 x.kind 11 (fun _ _=>Kf 4<|cb<|rr0<|ah x.item i) fun _ _=>M3 (.efx true (AV.map 1)<|av [aZ 25 false 0 q,AObj.map [AEnt.mk (iV 7) q1 0,AEnt.mk (iV 9) q1 1,AEnt.mk (iV 8) (bU (bY 107) [] []) 2] 3]) (et rt ti) (et (aY<|some<|aZ 25 false 0 q) ti) (SF x)<|K1 1 (.look<|b9 [rP x.kind,eS<|lQ x.kind]) (hlk x.kind)<|Kb 6 (lQ x.kind) (fun b=>Kt 0 b<|Kt 0 b<|Kt 0 b<|Kt 0 b<|Kj 0 x.item i (fun c _=>Mt c<|Mt c<|Mt b<|MV c<|MV b<|Ky 0<|rr0 true) fun c _=>Kh 0 c<|Kh 0 c<|Kt 0 b<|My c<|MV b<|Kf 0<|cb<|rr0<|ah x.item (-1)) fun b=>Mh b<|Mh b<|Mh b<|Mh b<|Mh b<|My b<|Ky 0<|rr0 false
noncomputable abbrev gO(nm:aT):AObj:=.row 1 false 0 [.str nm]
noncomputable def sY(nm:aT)(d:PDeed):Bool:=ah d.it.kind 10&&eX d.it.event nm
theorem RJ(nm:aT)(d:PDeed):kD 119 [aU d,.ptr 0 0 0 0] (av [gO nm]) (.bool (sY nm d)) (av [gO nm]):=by
  let q:=av [aZ 1 false 0 [aj nm]];exact JF Tryz.func119<|Kj 6 d.it.kind 10 (fun a _=>Kt 0 a<|Kt 0 a<|Kt 0 a<|Kt 0 a<|Ku 0 a<|K1 0 (.frz 1 [3]) (et rt ti)<|Mf<|et (by unfold sY;generalize ah d.it.kind 10=p1 at *;generalize eX d.it.event nm=p2 at *;simp only[aS,ax,bS, *]:(AV.bool (eX d.it.event nm))=(AV.bool (sY nm d)))<|aY q) fun a _=>Mh a<|Mh a<|Mh a<|Mh a<|My a<|K1 0 (.frz 1 [3]) (et rt ti)<|Mf<|et (by unfold sY;generalize ah d.it.kind 10=p1 at *;generalize eX d.it.event nm=p2 at *;simp only[aS,ax,bS, *]:(AV.bool false)=(AV.bool (sY nm d)))<|aY q
noncomputable def jv(nm:aT):List PDeed→Nat→Int
  |[],_=> -1
  |d::r,i=>match sY nm d with|true=>Int.ofNat i|false=>jv nm r (i+1)
theorem LV(nm:aT):∀(l:List PDeed)(i:Nat),jv nm l i<Int.ofNat (i+l.length)∧(0≤jv nm l i∨jv nm l i= -1)
  |[],i=>⟨by simp only[jv,oN];omega,.inr rfl⟩
  | d::r,i=>by
    have:=LV nm r (i+1)
    cases h:sY nm d<;>simp only[jv,h,oN,lC]at * <;>omega
theorem Yw{nm:aT}{d:PDeed}{r:List PDeed}{i:Nat}(h:sY nm d=true):jv nm (d::r) i=Int.ofNat i:=by simp only[jv,h]
theorem Yv{nm:aT}{d:PDeed}{r:List PDeed}{i:Nat}(h:sY nm d=false):jv nm (d::r) i=jv nm r (i+1):=by simp only[jv,h]
theorem CA(nm:aT)(l:List PDeed)(hl:l.length<2^40):kD 37 [.ls (l.map aU),.func (.func 119) [] [.ptr 0 0 0 0]] (av [gO nm]) (iV (jv nm l 0)) (av [gO nm]):=by
  let q:=av [aZ 1 false 0 [aj nm]];exact JF Tryz.func37<|Kl 2 7 (ln aU l)<|Mg 0<|tJ aU l [0,1,7,8] (fun a _=>([aW<|l.map aU,bU (bY 119) [] [bJ 0 0 0 0],nV l.length,nV a],[aZ 1 false 0 [aj nm]])) (fun a=>jv nm l (0:Nat)=jv nm a (l.length-a.length)) (by(rw[Nat.sub_self])) (fun _ _ _ _ _ a b=>Kh 0 a<|Kf 0<|et (by(rw[b];rfl):(iV (-1))=(iV (jv nm l 0)))<|aY q) fun a _ b _ c d e f g _ h i=>have:=ge b f;Kt 0 g<|Kx 4 h<|Ke 0 (RJ nm c)<|Mb (sY nm c) (fun _=>Kf 1<|et (by(rw[i,Yw (by assumption)];congr 2;have z:=Ik (b.trans f) (by simp) (by simp only[lC];omega:(l.length-(d.length+1))+(c::d).length=l.length);exact z):(nV a)=(iV (jv nm l 0)))<|aY q) fun _=>Kl 0 18 (dq a)<|Kf 0<|e<|by(rw[i,Yv (by assumption)];congr 1;have:=ge b f;simp only[lC];omega)
theorem RX(d:Int):kP 105 [.nils,iV d] (.ls ((pN [] d).map aJ)):=(RZ [] d (by simp)).onArgs (.cons Le.nils (.cons (Le.refl _) .nil))
theorem JW(nm:aT)(l:List PDeed)(hl:l.length<2^40)(h:aC (jv nm l 0) 0=true):kP 106 [.str nm,.ls (l.map aU)] (.tuple [iV 0,.bool false]):=by
  exact bM Tryz.func106<|Ke 4 (CA nm l hl)<|Kt 2 h<|Kf 1<|bp<|b9 [iV 0,eS false]
theorem JJ(nm:aT)(l:List PDeed)(hl:l.length<2^40)(h:aC (jv nm l 0) 0=false):kP 106 [.str nm,.ls (l.map aU)] (.tuple [iV (gD l (jv nm l 0).toNat).it.day,.bool true]):=by
  have g1:=aD h
  have g2:=(LV nm l 0).1
  exact bM Tryz.func106<|Ke 4 (CA nm l hl)<|Kh 2 h<|Kl 1 13 (BK (x:=jv nm l 0) oA)<|Mx (aI aU (by(simp only[oN,lM,lS]at *;omega):(jv nm l 0).toNat<(l).length))<|Kf 4<|bp<|b9 [iV (gD l (jv nm l 0).toNat).it.day,eS true]
noncomputable def ld(s:PStart)(l:List PDeed):List PSpan:=match ah s.kind 1 with|true=>pN [] s.day|false=>match ah s.kind 3 with|true=>(match aC (jv s.event l 0) 0 with|true=>[]|false=>pN [] (gD l (jv s.event l 0).toNat).it.day)|false=>[]
theorem Nc(s:PStart)(l:List PDeed)(hl:l.length<2^40)(hi:aC (jv s.event l 0) 0=true):kP 82 [aw s,.ls (l.map aU)] (.ls ((ld s l).map aJ)):=by
  have he:=JW s.event l hl hi
  have e:ld s l=match ah s.kind 1 with|true=>pN [] s.day|false=>[]:=(by unfold ld;rw[hi];cases ah s.kind 1<;>cases ah s.kind 3<;>rfl)
  rw[e]
  have rr0 b' (h:((match ah s.kind 1 with|true=>pN [] s.day|false=>[]).map aJ)=b':=by generalize ah s.kind 1=p1 at *;(rw[h0]);try rfl):=h;exact bM Tryz.func82<|Kj 5 s.kind 1 (fun h0 _=>Kp 1 (RX s.day)<|Kf 0<|cV<|rr0<|(pN [] s.day).map aJ) fun h0 _=>Kj 1 s.kind 3 (fun _ _=>Kp 2 he<|Kf 7 (Le.lsn<|rr0 []:Le _ (ab))) fun _ _=>Kf 0 (Le.lsn<|rr0 []:Le _ (ab))
theorem Nd(s:PStart)(l:List PDeed)(hl:l.length<2^40)(hi:aC (jv s.event l 0) 0=false):kP 82 [aw s,.ls (l.map aU)] (.ls ((ld s l).map aJ)):=by
  have he:=JJ s.event l hl hi
  have e:ld s l=match ah s.kind 1 with|true=>pN [] s.day|false=>match ah s.kind 3 with|true=>pN [] (gD l (jv s.event l 0).toNat).it.day |false=>[]:=(by unfold ld;rw[hi])
  rw[e]
  have rr0 b' (h:((match ah s.kind 1 with|true=>pN [] s.day|false=>match ah s.kind 3 with|true=>pN [] (gD l (jv s.event l 0).toNat).it.day |false=>[]).map aJ)=b':=by generalize ah s.kind 1=p1 at *;generalize ah s.kind 3=p3 at *;(rw[h0]);(first|rw[h1]|skip);try rfl):=h;exact bM Tryz.func82<|Kj 5 s.kind 1 (fun h0 _=>Kp 1 (RX s.day)<|Kf 0<|cV<|rr0<|(pN [] s.day).map aJ) fun h0 _=>Kj 1 s.kind 3 (fun h1 _=>Kp 2 he<|Kp 7 (RX (gD l (jv s.event l 0).toNat).it.day)<|Kf 0<|cV<|rr0<|(pN [] (gD l (jv s.event l 0).toNat).it.day).map aJ) fun h1 _=>Kf 0 (Le.lsn<|rr0 []:Le _ (ab))
theorem I1(s:PStart)(l:List PDeed)(hl:l.length<2^40):kP 82 [aw s,.ls (l.map aU)] (.ls ((ld s l).map aJ)):=by
  cases hi:aC (jv s.event l 0) 0
  · exact Nd s l hl hi
  · exact Nc s l hl hi
noncomputable def sg(d o:PDeed)(days:List PSpan):List PSpan:=match lQ o.it.kind&&rJ o.it d.act d.item with|true=>(match sW o.it.kind with|true=>pN days o.it.day|false=>oP days o.it.day)|false=>days
noncomputable def lT(d:PDeed):List PDeed→List PSpan→List PSpan
  |[],days=>days
  |o::r,days=>lT d r (sg d o days)
noncomputable def am(s:PStart)(d:PDeed)(l:List PDeed):List PSpan:=match aC d.it.kind 0||aC 6 d.it.kind with|true=>[]|false=>lT d l (ld (effS s d.it.start) l)
theorem Nf(s:PStart)(l:List PDeed):(ld s l).length≤1048577:=by
  have h:=fun d=>(uo [] d).len
  unfold ld
  cases ah s.kind 1<;>cases ah s.kind 3<;>cases aC (jv s.event l 0) 0<;>simp only[lN]<;>first|exact h _|omega
theorem gq(s:PStart)(d:PDeed)(l:List PDeed)(hl:l.length<2^40):kP 60 [aw s,aU d,.ls (l.map aU)] (.ls ((am s d l).map aJ)):=by
  have hlk:=zu
  have hle1:∀k,sW k=true→Le (.func (.func 105) [] []) (rP k):=fun k h=>OM h
  have hle2:∀k,sW k=false→lQ k=true→Le (.func (.func 107) [] []) (rP k):=fun k h h2=>SH h h2
  have hil:=Nf (effS s d.it.start) l
  have hin:∀b,(aC d.it.kind 0||aC 6 d.it.kind)=b→am s d l=match b with|true=>[]|false=>lT d l (ld (effS s d.it.start) l):=fun b h=>by unfold am;rw[h]
  have hst:∀(o:PDeed)(r:List PDeed)(days:List PSpan),lT d (o::r) days=lT d r (sg d o days):=fun o r days=>rfl
  have rr0 b' (h:((am s d l).map aJ)=b':=by first|(rw[hin true (by simp only[aS,ax,bS, *];try rfl)];rfl)|(rw[hin false (by simp only[aS,ax,bS, *];try rfl)];first|exact congrArg _ hj0.2|exact congrArg _ hj0.2.symm|(rw[hj0.2];rfl))):=h;let q1:=[ay [iV d.act,iV d.item,iV d.day,iV d.it.kind,aW (d.it.at_.map az),aW (d.it.to.map az),iV d.it.where_,iV d.it.nth_,iV d.it.unit.act,iV d.it.unit.item,iV d.it.unit.n,iV d.it.unit.kind,aj d.it.unit.label,aW (d.it.unit.head.map aQ),aW (d.it.unit.words.map aQ),aW (d.it.unit.kids.map aV),aW (d.it.old.map nW),aW (d.it.new.map nW),aj d.it.label,aj d.it.for_,iV d.it.start.kind,iV d.it.start.day,aj d.it.start.event,iV d.it.act,iV d.it.item,iV d.it.day,aj d.it.event,aW (d.it.by_.map NE)]];let q2:=[ay [iV s.kind,iV s.day,aj s.event]];let q3:=bU (bY 105) [] [];exact bM Tryz.func60<|Ka 7 d.it.kind 0 (fun a _=>Mt a<|Mt a<|Mt a<|MV a<|Kf 1 (Le.lsn<|rr0 []:Le _ (ab))) fun a _=>Kh 0 a<|Kh 0 a<|Kh 0 a<|Kw 0 a<|Mb (aC 6 d.it.kind) (fun a=>have:=al a;Kf 0 (Le.lsn<|rr0 []:Le _ (ab))) fun a=>have:=aD a;Kp 3 (HX s d.it.start)<|Kp 0 (I1 (effS s d.it.start) l hl)<|Kl 2 30 (ln aU l)<|Mg 0<|VW (0:Nat) l (ld (effS s d.it.start) l) [4,7,29,30,31] (fun a _ c=>([bJ 1 0 0 0,aW<|c.map aJ,aW<|l.map aU,nV l.length,nV a],[aZ 3 false 0 [ay [iV s.kind,iV s.day,aj s.event]],aZ 28 false 0 [ay [iV d.act,iV d.item,iV d.day,iV d.it.kind,aW<|d.it.at_.map az,aW<|d.it.to.map az,iV d.it.where_,iV d.it.nth_,iV d.it.unit.act,iV d.it.unit.item,iV d.it.unit.n,iV d.it.unit.kind,aj d.it.unit.label,aW<|d.it.unit.head.map aQ,aW<|d.it.unit.words.map aQ,aW<|d.it.unit.kids.map aV,aW<|d.it.old.map nW,aW<|d.it.new.map nW,aj d.it.label,aj d.it.for_,iV d.it.start.kind,iV d.it.start.day,aj d.it.start.event,iV d.it.act,iV d.it.item,iV d.it.day,aj d.it.event,aW<|d.it.by_.map NE]]])) (fun a c e=>(l).drop a=c∧e.length≤1048577∧lT d l (ld (effS s d.it.start) l)=lT d c e) (fun _ a _=>a.length) (et rfl<|by(exact⟨hil,rfl⟩)) fun a c e f g=>Mc c (fun a=>have c:=fK f.1 a;have hj0:=gP (J:=fun a c=>c.length≤1048577∧lT d l (ld (effS s d.it.start) l)=lT d a c) (a:=e) a f.2;Kh 0 c<|Kf 1<|cV<|rr0<|e.map aJ) fun c i j=>let m:=[ay [iV c.act,iV c.item,iV c.day,iV c.it.kind,aW<|c.it.at_.map az,aW<|c.it.to.map az,iV c.it.where_,iV c.it.nth_,iV c.it.unit.act,iV c.it.unit.item,iV c.it.unit.n,iV c.it.unit.kind,aj c.it.unit.label,aW<|c.it.unit.head.map aQ,aW<|c.it.unit.words.map aQ,aW<|c.it.unit.kids.map aV,aW<|c.it.old.map nW,aW<|c.it.new.map nW,aj c.it.label,aj c.it.for_,iV c.it.start.kind,iV c.it.start.day,aj c.it.start.event,iV c.it.act,iV c.it.item,iV c.it.day,aj c.it.event,aW<|c.it.by_.map NE]];have n:=ft f.1 j;have:=al n;have p:=fJ (enc:=aU) f.1 j;have hj0:=ch (J:=fun a c=>c.length≤1048577∧lT d l (ld (effS s d.it.start) l)=lT d a c) (a:=e) j f.2;Kt 0 n<|Mx p<|Mg 2<|M3 (.efx true (AV.map 3)<|av [aZ 3 false 0 q2,aZ 28 false 0 q1,aZ 28 false 0 m,AObj.map [AEnt.mk (iV 7) q3 0,AEnt.mk (iV 9) q3 1,AEnt.mk (iV 8) (bU (bY 107) [] []) 2] 3]) (jc rt rt rt ti) (jc (aY<|some<|aZ 28 false 0 m) (aY<|some<|aZ 28 false 0 q1) (aY<|some<|aZ 3 false 0 q2) ti) (SG s d c)<|K1 2 (.look<|b9 [rP c.it.kind,eS<|lQ c.it.kind]) (hlk c.it.kind)<|Kb 6 (lQ c.it.kind) (fun m=>Kt 0 m<|Kt 0 m<|Kt 0 m<|Kt 0 m<|Kt 0 m<|Kt 0 m<|Mp (ME c.it d.act d.item)<|MV m<|Mb (rJ c.it d.act d.item) (fun _=>Ks 4 (sW c.it.kind) (fun m=>Ml 53 (hle1 c.it.kind m)<|Mp (RZ e c.it.day oA)<|Kl 1 59 (dq a)<|K1 0 (.frz 2 [4,7,29,30,31]) (b6 rt rt ti)<|Mf<|g (a+1) i (pN e c.it.day) (et (bW f.1 j)<|by exact⟨(uo _ _).len,by rw[hj0.2,hst];simp only[sg, *];rfl⟩)<|dt j) fun n=>Ml 53 (hle2 c.it.kind n m)<|Mp (E9 e c.it.day oA)<|Kl 1 59 (dq a)<|K1 0 (.frz 2 [4,7,29,30,31]) (b6 rt rt ti)<|Mf<|g (a+1) i (oP e c.it.day) (et (bW f.1 j)<|by exact⟨(sb _ _).len,by rw[hj0.2,hst];simp only[sg, *];rfl⟩)<|dt j) fun _=>Kl 0 59 (dq a)<|K1 0 (.frz 2 [4,7,29,30,31]) (b6 rt rt ti)<|Mf<|g (a+1) i e (et (bW f.1 j)<|by exact⟨hj0.1,by rw[hj0.2,hst];simp only[sg,aS,ax,bS, *];try rfl⟩)<|dt j) fun c=>Mh c<|Mh c<|Mh c<|Mh c<|Mh c<|Mh c<|My c<|Kl 1 59 (dq a)<|K1 0 (.frz 2 [4,7,29,30,31]) (b6 rt rt ti)<|Mf<|g (a+1) i e (et (bW f.1 j)<|by exact⟨hj0.1,by rw[hj0.2,hst];simp only[sg,aS,ax,bS, *];try rfl⟩)<|dt j
noncomputable abbrev iR(d:Int):AObj:=.row 1 false 0 [iV d]
noncomputable abbrev dU:AObj:=.row 1 false 0 [.nils]
noncomputable abbrev gH(i ep n:Nat):AObj:=.row 1 false 0 [.slice i ep 0 n none]
noncomputable abbrev bh(m:List (Int×PStart)):AObj:=.map (bv aw m 0) m.length
noncomputable abbrev de(d:PDeed):AObj:=.row 28 false 0 [aU d]
noncomputable abbrev pL(ep:Nat)(l:List PDeed):AObj:=.row 28 true ep (l.map aU)
def dL:PStart:=⟨0,0,[]⟩
def au(m:List (Int×PStart))(k:Int):PStart:=(hJ k m).getD dL
theorem pK(m:List (Int×PStart))(k:Int):eL (some (.agg [iV 0,iV 0,.str []])) false (bc false 1 [(0,1)] (iV k) (bv aw m 0) 0)=some (aw (au m k)):=by
  rw[zB]
  cases h:hJ k m<;>simp only[au,h,Option.getD]<;>rfl
theorem rQ(m:List (Int×PStart))(a:PAct):rE (bv aw m 0) m.length (iV a.number) (.agg [iV a.start.kind,iV a.start.day,.str a.start.event]) (bc false 1 [(0,1)] (iV a.number) (bv aw m 0) 0)=some (bv aw (iW a.number a.start m) 0,(iW a.number a.start m).length):=B0 (f:=aw) a.number a.start m
/-- The starts of the acts by their numbers. -/
def lV(l:List PAct)(m:List (Int×PStart)):List (Int×PStart):=l.foldl (fun m a=>iW a.number a.start m) m
theorem nE(s:PStart)(d:PDeed)(l:List PDeed):NrmS (am s d l):=by
  have h1:∀(s:PStart),NrmS (ld s l):=fun s=>by
    unfold ld
    cases ah s.kind 1<;>cases ah s.kind 3<;>cases aC (jv s.event l 0) 0<;>first|exact yQ|exact uo _ _
  have h2:∀(r:List PDeed)(days:List PSpan),NrmS days→NrmS (lT d r days):=by
    intro r
    induction r with
    |nil=>intro days h;exact h
    | cons o r ih=>
      intro days h
      refine ih _ ?_
      unfold sg
      cases lQ o.it.kind&&rJ o.it d.act d.item<;>cases sW o.it.kind<;>first|exact h|exact uo _ _|exact sb _ _
  unfold am
  cases aC d.it.kind 0||aC 6 d.it.kind
  · exact h2 l _ (h1 _)
  · exact yQ
theorem s5(s:PStart)(d:PDeed)(l:List PDeed)(day:Int):kP 96 [.ls ((am s d l).map aJ),iV day] (.bool (iI (am s d l) day)):=by
  have hn:=nE s d l
  have h:=Hj (am s d l) day (mp hn.len (by decide))
  rwa[show fc (am s d l)=am s d l from(KL hn).symm]at h
/-- Whether an amendment is told: its purpose, its days. -/
noncomputable def WH(p:aT)(d:PDeed):Bool:=eX d.it.for_ []||eX d.it.for_ p
noncomputable def Cv(day:Int)(p:aT)(m:List (Int×PStart))(ds:List PDeed)(d:PDeed):Bool:=WH p d&&iI (am (au m d.act) d ds) day
noncomputable def sX(day:Int)(p:aT)(m:List (Int×PStart))(ds l:List PDeed):List PDeed:=l.filter fun d=>ct d.it.kind&&Cv day p m ds d
theorem Zo(d:PDeed)(ss:List PSpan)(day:Int)(p:aT)(m:List (Int×PStart))(hc:kP 96 [.ls (ss.map aJ),iV day] (.bool false)):kD 95 [aU d,.ls (ss.map aJ),.ptr 1 0 0 0,.ptr 0 0 0 0,.ptr 2 0 0 0] (av [iR day,gO p,dU,bh m,de d]) (.tuple []) (av [iR day,gO p,dU,bh m,de d]):=by
  exact eg Tryz.func95 fun a=>Kb 5 (eX d.it.for_ (ByteArray.mk #[]).data.toList) (fun b=>Mt b<|Mt b<|Mt b<|Mt b<|MV b<|Kp 2 hc<|K1 1 (.frz 5 []) (re rt (tM m.length 5<|af (f:=aw) (fun _=>rfl) m 0) rt rt rt ti)<|Mf a) fun b=>Kh 0 b<|Kh 0 b<|Kh 0 b<|Kh 0 b<|Kw 0 b<|Kb 0 (eX d.it.for_ p) (fun b=>Kt 0 b<|Kt 0 b<|Mp hc<|MV b<|K1 0 (.frz 5 []) (re rt (tM m.length 5<|af (f:=aw) (fun _=>rfl) m 0) rt rt rt ti)<|Mf a) fun b=>Mh b<|Mh b<|My b<|K1 0 (.frz 5 []) (re rt (tM m.length 5<|af (f:=aw) (fun _=>rfl) m 0) rt rt rt ti)<|Mf a
theorem Zn(d:PDeed)(ss:List PSpan)(day:Int)(p:aT)(m:List (Int×PStart))(h1:eX d.it.for_ []=false)(h2:eX d.it.for_ p=false):kD 95 [aU d,.ls (ss.map aJ),.ptr 1 0 0 0,.ptr 0 0 0 0,.ptr 2 0 0 0] (av [iR day,gO p,dU,bh m,de d]) (.tuple []) (av [iR day,gO p,dU,bh m,de d]):=by
  exact eg Tryz.func95 fun a=>Kh 5 h1<|Kh 0 h1<|Kh 0 h1<|Kh 0 h1<|Kh 0 h1<|Kw 0 h1<|Kh 0 h2<|Mh h2<|Mh h2<|My h2<|K1 0 (.frz 5 []) (re rt (tM m.length 5<|af (f:=aw) (fun _=>rfl) m 0) rt rt rt ti)<|Mf a
theorem Zm(d:PDeed)(ss:List PSpan)(day:Int)(p:aT)(m:List (Int×PStart))(hc:kP 96 [.ls (ss.map aJ),iV day] (.bool true))(h1:eX d.it.for_ []=true):kD 95 [aU d,.ls (ss.map aJ),.ptr 1 0 0 0,.ptr 0 0 0 0,.ptr 2 0 0 0] (av [iR day,gO p,dU,bh m,de d]) (.tuple []) (av [iR day,gO p,gH 5 0 1,bh m,de d,pL 0 [d]]):=by
  exact eg Tryz.func95 fun a=>Kt 5 h1<|Mt h1<|Mt h1<|Mt h1<|Mt h1<|MV h1<|Kp 2 hc<|K1 6 (.ren [0,1,2,3,4,6,5] [3] []) (tN m.length<|af (f:=aw) (fun _=>rfl) m 0)<|M1 (.frz 6 []) (D9 rt rt (tM m.length 6<|af (f:=aw) (fun _=>rfl) m 0) rt rt rt ti)<|Mf a
theorem Zl(d:PDeed)(ss:List PSpan)(day:Int)(p:aT)(m:List (Int×PStart))(hc:kP 96 [.ls (ss.map aJ),iV day] (.bool true))(h1:eX d.it.for_ []=false)(h2:eX d.it.for_ p=true):kD 95 [aU d,.ls (ss.map aJ),.ptr 1 0 0 0,.ptr 0 0 0 0,.ptr 2 0 0 0] (av [iR day,gO p,dU,bh m,de d]) (.tuple []) (av [iR day,gO p,gH 5 0 1,bh m,de d,pL 0 [d]]):=by
  exact eg Tryz.func95 fun a=>Kh 5 h1<|Kh 0 h1<|Kh 0 h1<|Kh 0 h1<|Kh 0 h1<|Kw 0 h1<|Kt 0 h2<|Kt 0 h2<|Kt 0 h2<|Mp hc<|MV h2<|K1 5 (.ren [0,1,2,3,4,6,5] [3] []) (tN m.length<|af (f:=aw) (fun _=>rfl) m 0)<|M1 (.frz 6 []) (D9 rt rt (tM m.length 6<|af (f:=aw) (fun _=>rfl) m 0) rt rt rt ti)<|Mf a
theorem Zi(d:PDeed)(ss:List PSpan)(day:Int)(p:aT)(m:List (Int×PStart))(ep n:Nat)(out:List PDeed)(hc:kP 96 [.ls (ss.map aJ),iV day] (.bool false)):kD 95 [aU d,.ls (ss.map aJ),.ptr 1 0 0 0,.ptr 0 0 0 0,.ptr 2 0 0 0] (av [iR day,gO p,gH 4 ep n,bh m,pL ep out,de d]) (.tuple []) (av [iR day,gO p,gH 4 ep n,bh m,pL ep out,de d]):=by
  exact eg Tryz.func95 fun a=>Kb 5 (eX d.it.for_ (ByteArray.mk #[]).data.toList) (fun b=>Mt b<|Mt b<|Mt b<|Mt b<|MV b<|Kp 2 hc<|K1 1 (.frz 6 []) (D9 rt (tR 28 true ep 6<|aX xq out) (tM m.length 6<|af (f:=aw) (fun _=>rfl) m 0) rt rt rt ti)<|Mf a) fun b=>Kh 0 b<|Kh 0 b<|Kh 0 b<|Kh 0 b<|Kw 0 b<|Kb 0 (eX d.it.for_ p) (fun b=>Kt 0 b<|Kt 0 b<|Mp hc<|MV b<|K1 0 (.frz 6 []) (D9 rt (tR 28 true ep 6<|aX xq out) (tM m.length 6<|af (f:=aw) (fun _=>rfl) m 0) rt rt rt ti)<|Mf a) fun b=>Mh b<|Mh b<|My b<|K1 0 (.frz 6 []) (D9 rt (tR 28 true ep 6<|aX xq out) (tM m.length 6<|af (f:=aw) (fun _=>rfl) m 0) rt rt rt ti)<|Mf a
theorem Zh(d:PDeed)(ss:List PSpan)(day:Int)(p:aT)(m:List (Int×PStart))(ep n:Nat)(out:List PDeed)(h1:eX d.it.for_ []=false)(h2:eX d.it.for_ p=false):kD 95 [aU d,.ls (ss.map aJ),.ptr 1 0 0 0,.ptr 0 0 0 0,.ptr 2 0 0 0] (av [iR day,gO p,gH 4 ep n,bh m,pL ep out,de d]) (.tuple []) (av [iR day,gO p,gH 4 ep n,bh m,pL ep out,de d]):=by
  exact eg Tryz.func95 fun a=>Kh 5 h1<|Kh 0 h1<|Kh 0 h1<|Kh 0 h1<|Kh 0 h1<|Kw 0 h1<|Kh 0 h2<|Mh h2<|Mh h2<|My h2<|K1 0 (.frz 6 []) (D9 rt (tR 28 true ep 6<|aX xq out) (tM m.length 6<|af (f:=aw) (fun _=>rfl) m 0) rt rt rt ti)<|Mf a
theorem Zg(d:PDeed)(ss:List PSpan)(day:Int)(p:aT)(m:List (Int×PStart))(ep n:Nat)(out:List PDeed)(hn:n=out.length)(hn2:n<2^20)(hc:kP 96 [.ls (ss.map aJ),iV day] (.bool true))(h1:eX d.it.for_ []=true):kD 95 [aU d,.ls (ss.map aJ),.ptr 1 0 0 0,.ptr 0 0 0 0,.ptr 2 0 0 0] (av [iR day,gO p,gH 4 ep n,bh m,pL ep out,de d]) (.tuple []) (av [iR day,gO p,gH 4 (ep+1) (n+1),bh m,pL (ep+1) (out++[d]),de d]):=by
  exact eg Tryz.func95 fun a=>Kt 5 h1<|Mt h1<|Mt h1<|Mt h1<|Mt h1<|MV h1<|Kp 2 hc<|K1 4 .app (b6 (aY ep) (by(rw[lM];exact hn):n=(out.map aU).length) (by exact cj (m:=2^21) (by omega) (by decide) (by decide):small (n+1) 392=true))<|M1 (.obj 4<|aZ 28 true (ep+1)<|(out++[d]).map aU) (congrArg (aZ 28 true<|ep+1)<|co (f:=aU) (l:=out) (ws:=[d]))<|K1 0 (.frz 6 []) (D9 rt (tR 28 true (ep+1) 6<|aX xq<|out++[d]) (tM m.length 6<|af (f:=aw) (fun _=>rfl) m 0) rt rt rt ti)<|Mf a
theorem Zf(d:PDeed)(ss:List PSpan)(day:Int)(p:aT)(m:List (Int×PStart))(ep n:Nat)(out:List PDeed)(hn:n=out.length)(hn2:n<2^20)(hc:kP 96 [.ls (ss.map aJ),iV day] (.bool true))(h1:eX d.it.for_ []=false)(h2:eX d.it.for_ p=true):kD 95 [aU d,.ls (ss.map aJ),.ptr 1 0 0 0,.ptr 0 0 0 0,.ptr 2 0 0 0] (av [iR day,gO p,gH 4 ep n,bh m,pL ep out,de d]) (.tuple []) (av [iR day,gO p,gH 4 (ep+1) (n+1),bh m,pL (ep+1) (out++[d]),de d]):=by
  exact eg Tryz.func95 fun a=>Kh 5 h1<|Kh 0 h1<|Kh 0 h1<|Kh 0 h1<|Kh 0 h1<|Kw 0 h1<|Kt 0 h2<|Kt 0 h2<|Kt 0 h2<|Mp hc<|MV h2<|K1 3 .app (b6 (aY ep) (by(rw[lM];exact hn):n=(out.map aU).length) (by exact cj (m:=2^21) (by omega) (by decide) (by decide):small (n+1) 392=true))<|M1 (.obj 4<|aZ 28 true (ep+1)<|(out++[d]).map aU) (congrArg (aZ 28 true<|ep+1)<|co (f:=aU) (l:=out) (ws:=[d]))<|K1 0 (.frz 6 []) (D9 rt (tR 28 true (ep+1) 6<|aX xq<|out++[d]) (tM m.length 6<|af (f:=aw) (fun _=>rfl) m 0) rt rt rt ti)<|Mf a
theorem Vv{day:Int}{p:aT}{m:List (Int×PStart)}{ds:List PDeed}{d:PDeed}(h:Cv day p m ds d=false):kP 96 [.ls ((am (au m d.act) d ds).map aJ),iV day] (.bool false)∨(eX d.it.for_ []=false∧eX d.it.for_ p=false):=by
  unfold Cv WH at h
  have hz:=s5 (au m d.act) d ds day
  cases q:iI (am (au m d.act) d ds) day with
  |false=>rw[q]at hz;exact .inl hz
  |true=>rw[q,Bool.and_true,BH]at h;exact .inr h
theorem PA{day:Int}{p:aT}{m:List (Int×PStart)}{ds:List PDeed}{d:PDeed}(h:Cv day p m ds d=true):kP 96 [.ls ((am (au m d.act) d ds).map aJ),iV day] (.bool true)∧(eX d.it.for_ []=true∨(eX d.it.for_ []=false∧eX d.it.for_ p=true)):=by
  unfold Cv WH at h
  obtain⟨h1,h2⟩:=oZ.1 h
  have hz:=s5 (au m d.act) d ds day
  rw[h2]at hz
  refine⟨hz,?_⟩
  cases q:eX d.it.for_ []with
  |true=>exact .inl rfl
  |false=>rw[q,Bool.false_or]at h1;exact .inr ⟨rfl,h1⟩
theorem YZ(day:Int)(p:aT)(m:List (Int×PStart))(ds:List PDeed)(d:PDeed)(hb:Cv day p m ds d=false):kD 95 [aU d,.ls ((am (au m d.act) d ds).map aJ),.ptr 1 0 0 0,.ptr 0 0 0 0,.ptr 2 0 0 0] (av [iR day,gO p,dU,bh m,de d]) (.tuple []) (av [iR day,gO p,dU,bh m,de d]):=by
  rcases Vv hb with h|⟨h1,h2⟩
  · exact Zo d _ day p m h
  · exact Zn d _ day p m h1 h2
theorem Zt(day:Int)(p:aT)(m:List (Int×PStart))(ds:List PDeed)(d:PDeed)(hb:By (Cv day p m ds d) false):kD 95 [aU d,.ls ((am (au m d.act) d ds).map aJ),.ptr 1 0 0 0,.ptr 0 0 0 0,.ptr 2 0 0 0] (av [iR day,gO p,dU,bh m,de d]) (.tuple []) (av [iR day,gO p,dU,bh m,de d]):=YZ day p m ds d hb
theorem Zs(day:Int)(p:aT)(m:List (Int×PStart))(ds:List PDeed)(d:PDeed)(hb:By (Cv day p m ds d) true):kD 95 [aU d,.ls ((am (au m d.act) d ds).map aJ),.ptr 1 0 0 0,.ptr 0 0 0 0,.ptr 2 0 0 0] (av [iR day,gO p,dU,bh m,de d]) (.tuple []) (av [iR day,gO p,gH 5 0 1,bh m,de d,pL 0 [d]]):=by
  obtain⟨h,h1|⟨h1,h2⟩⟩:=PA hb
  · exact Zm d _ day p m h h1
  · exact Zl d _ day p m h h1 h2
theorem Zr(day:Int)(p:aT)(m:List (Int×PStart))(ds:List PDeed)(d:PDeed)(ep n:Nat)(out:List PDeed)(hb:By (Cv day p m ds d) false):kD 95 [aU d,.ls ((am (au m d.act) d ds).map aJ),.ptr 1 0 0 0,.ptr 0 0 0 0,.ptr 2 0 0 0] (av [iR day,gO p,gH 4 ep n,bh m,pL ep out,de d]) (.tuple []) (av [iR day,gO p,gH 4 ep n,bh m,pL ep out,de d]):=by
  rcases Vv hb with h|⟨h1,h2⟩
  · exact Zi d _ day p m ep n out h
  · exact Zh d _ day p m ep n out h1 h2
theorem Zp(day:Int)(p:aT)(m:List (Int×PStart))(ds:List PDeed)(d:PDeed)(ep n:Nat)(out:List PDeed)(hb:By (Cv day p m ds d) true)(hn:n=out.length)(hn2:n<2^20):kD 95 [aU d,.ls ((am (au m d.act) d ds).map aJ),.ptr 1 0 0 0,.ptr 0 0 0 0,.ptr 2 0 0 0] (av [iR day,gO p,gH 4 ep n,bh m,pL ep out,de d]) (.tuple []) (av [iR day,gO p,gH 4 (ep+1) (n+1),bh m,pL (ep+1) (out++[d]),de d]):=by
  obtain⟨h,h1|⟨h1,h2⟩⟩:=PA hb
  · exact Zg d _ day p m ep n out hn hn2 h h1
  · exact Zf d _ day p m ep n out hn hn2 h h1 h2
theorem PD{day:Int}{p:aT}{m:List (Int×PStart)}{ds r:List PDeed}{d:PDeed}(h:ct d.it.kind=false):sX day p m ds (d::r)=sX day p m ds r:=by simp only[sX,List.filter_cons,h,Bool.false_and];rfl
theorem PC{day:Int}{p:aT}{m:List (Int×PStart)}{ds r:List PDeed}{d:PDeed}(h:Cv day p m ds d=false):sX day p m ds (d::r)=sX day p m ds r:=by simp only[sX,List.filter_cons,h,tq];rfl
theorem PB{day:Int}{p:aT}{m:List (Int×PStart)}{ds r:List PDeed}{d:PDeed}(h:ct d.it.kind=true)(h2:Cv day p m ds d=true):sX day p m ds (d::r)=d::sX day p m ds r:=by simp only[sX,List.filter_cons,h,h2];rfl
structure OnA(day:Int)(p:aT)(m:List (Int×PStart))(ds r:List PDeed):Prop where
  f:sX day p m ds ds=sX day p m ds r
structure OnR(day:Int)(p:aT)(m:List (Int×PStart))(ds r:List PDeed)(ep n:Nat)(out:List PDeed):Prop where
  len:n=out.length
  ep:ep+1=out.length
  small:out.length+r.length≤ds.length
  f:sX day p m ds ds=out++sX day p m ds r
theorem OnA.no{day:Int}{p:aT}{m:List (Int×PStart)}{ds r:List PDeed}{d:PDeed}(h:OnA day p m ds (d::r))(ha:ct d.it.kind=false):OnA day p m ds r:=⟨by rw[h.f,PD ha]⟩
theorem OnA.nil{day:Int}{p:aT}{m:List (Int×PStart)}{ds r:List PDeed}{d:PDeed}(h:OnA day p m ds (d::r))(hb:Cv day p m ds d=false):OnA day p m ds r:=⟨by rw[h.f,PC hb]⟩
theorem OnA.new{day:Int}{p:aT}{m:List (Int×PStart)}{ds r:List PDeed}{d:PDeed}{n:Nat}(h:OnA day p m ds (d::r))(hl:(d::r).length≤ds.length)(ha:ct d.it.kind=true)(hb:Cv day p m ds d=true)(hn:n=1):OnR day p m ds r 0 n [d]:=⟨hn,rfl,by simp only[lC,lN]at *;omega,by rw[h.f,PB ha hb];rfl⟩
theorem OnR.no{day:Int}{p:aT}{m:List (Int×PStart)}{ds r:List PDeed}{d:PDeed}{ep n:Nat}{out:List PDeed}(h:OnR day p m ds (d::r) ep n out)(ha:ct d.it.kind=false):OnR day p m ds r ep n out:=⟨h.len,h.ep,by have:=h.small;simp only[lC]at this;omega,by rw[h.f,PD ha]⟩
theorem OnR.nil{day:Int}{p:aT}{m:List (Int×PStart)}{ds r:List PDeed}{d:PDeed}{ep n:Nat}{out:List PDeed}(h:OnR day p m ds (d::r) ep n out)(hb:Cv day p m ds d=false):OnR day p m ds r ep n out:=⟨h.len,h.ep,by have:=h.small;simp only[lC]at this;omega,by rw[h.f,PC hb]⟩
theorem OnR.new{day:Int}{p:aT}{m:List (Int×PStart)}{ds r:List PDeed}{d:PDeed}{ep n k:Nat}{out:List PDeed}(h:OnR day p m ds (d::r) ep n out)(ha:ct d.it.kind=true)(hb:Cv day p m ds d=true)(hk:k=n+1):OnR day p m ds r (ep+1) k (out++[d]):=by
  have:=h.len;have:=h.ep;have:=h.small
  refine⟨?_,?_,?_,by rw[h.f,PB ha hb,nh];rfl⟩<;>simp only[lA,lC,lN]at * <;>omega
theorem OnR.done{day:Int}{p:aT}{m:List (Int×PStart)}{ds:List PDeed}{ep n:Nat}{out:List PDeed}(h:OnR day p m ds [] ep n out):ep=(sX day p m ds ds).length -1∧n=(sX day p m ds ds).length∧out=sX day p m ds ds:=by
  have e:sX day p m ds ds=out:=by rw[h.f];exact ec _
  have:=h.len;have:=h.ep
  rw[e];exact⟨by omega,by omega,rfl⟩
theorem Ij{α:Type}{l r:List α}{j:Nat}{a:α}(h:l.drop j=a::r):(a::r).length≤l.length:=by rw[←h,tV];omega
theorem Vy{day:Int}{p:aT}{m:List (Int×PStart)}{ds r:List PDeed}{d:PDeed}(h:sX day p m ds (d::r)=[])(ha:ct d.it.kind=true):Cv day p m ds d=false:=by
  cases q:Cv day p m ds d with
  |false=>rfl
  |true=>rw[PB ha q]at h;cases h
theorem XK(gs:List PGaz)(L:List PAct)(ds:List PDeed)(day:Int)(p:aT)(hL:L.length<10000)(hd:ds.length<100000)(ha:kP 55 [.ls (gs.map ap)] (.ls (L.map aa)))(hi:kP 36 [.ls (gs.map ap)] (.ls (ds.map aU)))(hE:sX day p (lV L []) ds ds=[]):
    kD 42 [.ls (gs.map ap),.func (.func 95) [] [.ptr 1 0 0 0,.ptr 0 0 0 0,.ptr 2 0 0 0]] (av [iR day,gO p,dU]) (.tuple []) (av [iR day,gO p,dU]):=by
  have hlk:=pK
  have hup:=rQ
  let q1:=[iV day];exact eg Tryz.func42 fun a=>Kp 2 ha<|Kl 0 13 (ln aa L)<|Mg 0<|LN aa L ([]:List (Int×PStart)) [0,1,4,12,13,14] (fun a _ b=>([aW<|gs.map ap,bU (bY 95) [] [bJ 1 0 0 0,bJ 0 0 0 0,bJ 2 0 0 0],AV.map 3,aW<|L.map aa,nV L.length,nV a],[aZ 1 false 0 [iV day],aZ 1 false 0 [aj p],aZ 1 false 0 [ab],AObj.map (bv aw b 0) b.length])) (fun a b=>lV L []=lV a b) (by rfl) (fun _ _ b _ _ _ c d=>Kh 0 c<|Kp 0 hi<|Kl 2 27 (ln aU ds)<|Mg 0<|VW (0:Nat) ds () [1,4,7,26,27,28] (fun a _ _=>([bU (bY 95) [] [bJ 1 0 0 0,bJ 0 0 0 0,bJ 2 0 0 0],AV.map 3,aW<|ds.map aU,aW<|ds.map aU,nV ds.length,nV a],[aZ 1 false 0 [iV day],aZ 1 false 0 [aj p],aZ 1 false 0 [ab],AObj.map (bv aw b 0) b.length])) (fun a c _=>(ds).drop a=c∧sX day p b ds c=[]) (fun _ a _=>a.length) (et rfl<|by(rw[←show lV L []=b from d];exact hE)) fun c d e f g=>Mc d (fun c=>have d:=fK f.1 c;have:=gP (J:=fun a _=>sX day p b ds a=[]) (a:=e) c f.2;Kh 0 d<|M1 (.frz 3 []) (jc rt rt rt ti)<|Mf a) fun a d h=>let i:=[ay [iV a.act,iV a.item,iV a.day,iV a.it.kind,aW<|a.it.at_.map az,aW<|a.it.to.map az,iV a.it.where_,iV a.it.nth_,iV a.it.unit.act,iV a.it.unit.item,iV a.it.unit.n,iV a.it.unit.kind,aj a.it.unit.label,aW<|a.it.unit.head.map aQ,aW<|a.it.unit.words.map aQ,aW<|a.it.unit.kids.map aV,aW<|a.it.old.map nW,aW<|a.it.new.map nW,aj a.it.label,aj a.it.for_,iV a.it.start.kind,iV a.it.start.day,aj a.it.start.event,iV a.it.act,iV a.it.item,iV a.it.day,aj a.it.event,aW<|a.it.by_.map NE]];have j:=ft f.1 h;have:=al j;have k:=fJ (enc:=aU) f.1 h;have e:=ch (J:=fun a _=>sX day p b ds a=[]) (a:=e) h f.2;Kt 0 j<|Mx k<|Kp 5 (jr a.it.kind)<|Mb (ct a.it.kind) (fun _=>K1 4 (.look<|ay [iV (au b a.act).kind,iV (au b a.act).day,aj (au b a.act).event]) (hlk b a.act)<|Kp 1 (gq (au b a.act) a ds<|by(omega))<|M3 (.efx true (b9 [])<|av [aZ 1 false 0 q1,aZ 1 false 0 [aj p],aZ 1 false 0 [ab],AObj.map (bv aw b 0) b.length,aZ 28 false 0 i]) (re rt (tM b.length 5<|af (f:=aw) (fun _=>rfl) b 0) rt rt rt ti) (re (aY<|some<|aZ 28 false 0 i) (aY<|some<|AObj.map (bv aw b 0) b.length) (aY<|some<|aZ 1 false 0 [ab]) (aY<|some<|aZ 1 false 0 [aj p]) (aY<|some<|aZ 1 false 0 q1) ti) (YZ day p b ds a<|by exact Vy e (by assumption))<|Kl 0 46 (dq c)<|K1 0 (.frz 4 [1,4,7,26,27,28]) (vS (tM b.length 4<|af (f:=aw) (fun _=>rfl) b 0) rt rt rt ti)<|Mf<|g (c+1) d () (et (bW f.1 h)<|by(have z:=e;rw[PC (Vy z (by assumption))]at z;exact z))<|dt h) fun _=>Kl 0 46 (dq c)<|K1 0 (.frz 4 [1,4,7,26,27,28]) (vS (tM b.length 4<|af (f:=aw) (fun _=>rfl) b 0) rt rt rt ti)<|Mf<|g (c+1) d () (et (bW f.1 h)<|by(have z:=e;rw[PD (by assumption)]at z;exact z))<|dt h) fun a _ b _ _ c d e _ f _ g h=>Kt 0 f<|Mx g<|K1 7 (.upd (bv aw (iW c.number c.start b) 0) (iW c.number c.start b).length) (hup b c)<|Kl 0 23 (dq a)<|K1 0 (.frz 4 [0,1,4,12,13,14]) (vS (tM (iW c.number c.start b).length 4<|af (f:=aw) (fun _=>rfl) (iW c.number c.start b) 0) rt rt rt ti)<|Mf<|e (iW c.number c.start b)<|by exact h
def He(gs:List PGaz)(L:List PAct)(day:Int)(p:aT)(x0:Nat×List PAct×List (Int×PStart)):Prop:=(L).drop x0.1=x0.2.1∧lV L []=lV x0.2.1 x0.2.2
noncomputable def xy(gs:List PGaz)(L:List PAct)(day:Int)(p:aT)(x0:Nat×List PAct×List (Int×PStart)):List AV×List AObj:=([AV.ls (gs.map ap),AV.func (Fn.func 95) [] [AV.ptr 1 0 0 0,AV.ptr 0 0 0 0,AV.ptr 2 0 0 0],AV.map 3,AV.ls (L.map aa),nV L.length,nV x0.1],[AObj.row 1 false 0 [iV day],AObj.row 1 false 0 [AV.str p],AObj.row 1 false 0 [AV.nils],AObj.map (bv aw x0.2.2 0) x0.2.2.length])
def Hd(ds:List PDeed)(day:Int)(p:aT)(x0:Nat×List PAct×List (Int×PStart))(x1:Nat×List PDeed×Unit):Prop:=(ds).drop x1.1=x1.2.1∧OnA day p x0.2.2 ds x1.2.1
noncomputable def xw(ds:List PDeed)(day:Int)(p:aT)(x0:Nat×List PAct×List (Int×PStart))(x1:Nat×List PDeed×Unit):List AV×List AObj:=([AV.func (Fn.func 95) [] [AV.ptr 1 0 0 0,AV.ptr 0 0 0 0,AV.ptr 2 0 0 0],AV.map 3,AV.ls (ds.map aU),AV.ls (ds.map aU),nV ds.length,nV x1.1],[AObj.row 1 false 0 [iV day],AObj.row 1 false 0 [AV.str p],AObj.row 1 false 0 [AV.nils],AObj.map (bv aw x0.2.2 0) x0.2.2.length])
def Hc(ds:List PDeed)(day:Int)(p:aT)(x0:Nat×List PAct×List (Int×PStart))(x1:Nat×List PDeed×Nat×Nat×List PDeed):Prop:=(ds).drop x1.1=x1.2.1∧OnR day p x0.2.2 ds x1.2.1 x1.2.2.1 x1.2.2.2.1 x1.2.2.2.2
noncomputable def Hb(ds:List PDeed)(day:Int)(p:aT)(x0:Nat×List PAct×List (Int×PStart))(x1:Nat×List PDeed×Nat×Nat×List PDeed):List AV×List AObj:=([AV.func (Fn.func 95) [] [AV.ptr 1 0 0 0,AV.ptr 0 0 0 0,AV.ptr 2 0 0 0],AV.map 3,AV.ls (ds.map aU),AV.ls (ds.map aU),nV ds.length,nV x1.1],[AObj.row 1 false 0 [iV day],AObj.row 1 false 0 [AV.str p],AObj.row 1 false 0 [AV.slice 4 x1.2.2.1 0 x1.2.2.2.1 none],AObj.map (bv aw x0.2.2 0) x0.2.2.length,AObj.row 28 true x1.2.2.1 (x1.2.2.2.2.map aU)])
theorem XJ(gs:List PGaz)(L:List PAct)(ds:List PDeed)(day:Int)(p:aT)(hL:L.length<10000)(hd:ds.length<100000)(ha:kP 55 [.ls (gs.map ap)] (.ls (L.map aa)))(hi:kP 36 [.ls (gs.map ap)] (.ls (ds.map aU)))(hE:sX day p (lV L []) ds ds≠[]):
    kD 42 [.ls (gs.map ap),.func (.func 95) [] [.ptr 1 0 0 0,.ptr 0 0 0 0,.ptr 2 0 0 0]] (av [iR day,gO p,dU]) (.tuple []) (av [iR day,gO p,gH 3 ((sX day p (lV L []) ds ds).length -1) (sX day p (lV L []) ds ds).length,pL ((sX day p (lV L []) ds ds).length -1) (sX day p (lV L []) ds ds)]):=by
  have hlk:=pK
  have hup:=rQ
  let q5:=[iV day];let q8:=b9 [];let q10:=some (aZ 1 false 0 [aj p]);let q11:=some (aZ 1 false 0 q5);exact JF Tryz.func42<|Kp 2 ha<|Kl 0 13 (ln aa L)<|Mg 0<|ML (Nat×List PAct×List (Int×PStart)) [0,1,4,12,13,14] (xy gs L day p) (He gs L day p) (fun a=>a.2.1.length) (0,L,[]) (aY<|xy gs L day p (0,L,[])) (et (rfl:List.drop 0 (L)=L) (by rfl:(lV L []=lV L []))) fun a b c=>let d:=some<|AObj.map (bv aw a.2.2 0) a.2.2.length;Mi (fun a b=>lV L []=lV a b) aa b (fun _ b c=>Kh 0 b<|Kp 0 hi<|Kl 2 27 (ln aU ds)<|Mg 0<|MM (Nat×List PDeed×Unit) (Nat×List PDeed×Nat×Nat×List PDeed) [1,4,7,26,27,28] (xw ds day p a) (Hb ds day p a) (Hd ds day p a) (Hc ds day p a) (fun a=>a.2.1.length) (fun a=>a.2.1.length) (.inl (0,ds,())) (aY<|xw ds day p a (0,ds,())) (et (rfl:List.drop 0 (ds)=ds) (by(exact⟨rfl⟩):(OnA day p a.2.2 ds ds))) (fun b e f=>Mc b.2.1 (fun d=>have f:=fK e.1 d;have b:=gP (J:=fun b _=>OnA day p a.2.2 ds b) (a:=b.2.2) d e.2;Kh 0 f<|Mw .abs (by exact hE (by rw[show lV L []=a.2.2 from c];exact b.f):False)) fun c g h=>let i:=[ay [iV c.act,iV c.item,iV c.day,iV c.it.kind,aW<|c.it.at_.map az,aW<|c.it.to.map az,iV c.it.where_,iV c.it.nth_,iV c.it.unit.act,iV c.it.unit.item,iV c.it.unit.n,iV c.it.unit.kind,aj c.it.unit.label,aW<|c.it.unit.head.map aQ,aW<|c.it.unit.words.map aQ,aW<|c.it.unit.kids.map aV,aW<|c.it.old.map nW,aW<|c.it.new.map nW,aj c.it.label,aj c.it.for_,iV c.it.start.kind,iV c.it.start.day,aj c.it.start.event,iV c.it.act,iV c.it.item,iV c.it.day,aj c.it.event,aW<|c.it.by_.map NE]];let j:=ay [iV (au a.2.2 c.act).kind,iV (au a.2.2 c.act).day,aj (au a.2.2 c.act).event];have k:=ft e.1 h;have:=al k;have l:=fJ (enc:=aU) e.1 h;have m:=ch (J:=fun b _=>OnA day p a.2.2 ds b) (a:=b.2.2) h e.2;Kt 0 k<|Mx l<|Kp 5 (jr c.it.kind)<|Mb (ct c.it.kind) (fun _=>Ms (Cv day p a.2.2 ds c) (fun d=>K1 4 (.look j) (hlk a.2.2 c.act)<|Kp 1 (gq (au a.2.2 c.act) c ds<|by(omega))<|M3 (.efx false q8<|av [aZ 1 false 0 q5,aZ 1 false 0 [aj p],aZ 1 false 0 [aE 5 0 0 1 none],AObj.map (bv aw a.2.2 0) a.2.2.length,aZ 28 false 0 i,aZ 28 true 0 i]) (re rt (tM a.2.2.length 5<|af (f:=aw) (fun _=>rfl) a.2.2 0) rt rt rt ti) ti (Zs day p a.2.2 ds c d)<|Kl 0 46 (dq b.1)<|K1 0 (.ren [0,1,2,3,5,4] [3] [1,4,7,26,27,28]) (tN a.2.2.length<|af (f:=aw) (fun _=>rfl) a.2.2 0)<|M1 (.frz 5 [1,4,7,26,27,28]) (re rt (tM a.2.2.length 5<|af (f:=aw) (fun _=>rfl) a.2.2 0) rt rt rt ti)<|Mf<|f (.inr (b.1+1,g,(0,1,[c]))) (et (bW e.1 h) (by exact m.new (Ij (e.1.trans h)) (by assumption) (by assumption) rfl:(OnR day p a.2.2 ds g (0:Nat) (1:Nat) [c])))<|dt h) fun k=>K1 4 (.look j) (hlk a.2.2 c.act)<|Kp 1 (gq (au a.2.2 c.act) c ds<|by(omega))<|M3 (.efx true q8<|av [aZ 1 false 0 q5,aZ 1 false 0 [aj p],aZ 1 false 0 [ab],AObj.map (bv aw a.2.2 0) a.2.2.length,aZ 28 false 0 i]) (re rt (tM a.2.2.length 5<|af (f:=aw) (fun _=>rfl) a.2.2 0) rt rt rt ti) (re (aY<|some<|aZ 28 false 0 i) (aY d) (aY<|some<|aZ 1 false 0 [ab]) (aY q10) (aY q11) ti) (Zt day p a.2.2 ds c k)<|Kl 0 46 (dq b.1)<|K1 0 (.frz 4 [1,4,7,26,27,28]) (vS (tM a.2.2.length 4<|af (f:=aw) (fun _=>rfl) a.2.2 0) rt rt rt ti)<|Mf<|f (.inl (b.1+1,g,())) (et (bW e.1 h) (by exact m.nil (by assumption):(OnA day p a.2.2 ds g)))<|dt h) fun _=>Kl 0 46 (dq b.1)<|K1 0 (.frz 4 [1,4,7,26,27,28]) (vS (tM a.2.2.length 4<|af (f:=aw) (fun _=>rfl) a.2.2 0) rt rt rt ti)<|Mf<|f (.inl (b.1+1,g,())) (et (bW e.1 h) (by exact m.no (by assumption):(OnA day p a.2.2 ds g)))<|dt h) fun b e f=>let g:=[aE 4 b.2.2.1 0 b.2.2.2.1 none];let h:=List.map aU b.2.2.2.2;Mc b.2.1 (fun d=>have f:=fK e.1 d;have d:=gP (J:=fun b c=>OnR day p a.2.2 ds b c.1 c.2.1 c.2.2) (a:=b.2.2) d e.2;Kh 0 f<|M2 (.ren [0,1,2,4,3] [4,3] []) (tS 28 true b.2.2.1<|aX xq b.2.2.2.2) (tN a.2.2.length<|af (f:=aw) (fun _=>rfl) a.2.2 0)<|M1 (.frz 4 []) (vS (tR 28 true b.2.2.1 4<|aX xq b.2.2.2.2) rt rt rt ti)<|Mf<|et (aY q8) (by(have q:=d.done;rw[show lV L []=a.2.2 from c,q.1,q.2.1,q.2.2]):(av [AObj.row 1 false 0 [iV day],AObj.row 1 false 0 [AV.str p],AObj.row 1 false 0 [AV.slice 3 b.2.2.1 0 b.2.2.2.1 none],AObj.row 28 true b.2.2.1 (b.2.2.2.2.map aU)])=(av [iR day,gO p,gH 3 ((sX day p (lV L []) ds ds).length -1) (sX day p (lV L []) ds ds).length,pL ((sX day p (lV L []) ds ds).length -1) (sX day p (lV L []) ds ds)]))) fun c i j=>let k:=[ay [iV c.act,iV c.item,iV c.day,iV c.it.kind,aW<|c.it.at_.map az,aW<|c.it.to.map az,iV c.it.where_,iV c.it.nth_,iV c.it.unit.act,iV c.it.unit.item,iV c.it.unit.n,iV c.it.unit.kind,aj c.it.unit.label,aW<|c.it.unit.head.map aQ,aW<|c.it.unit.words.map aQ,aW<|c.it.unit.kids.map aV,aW<|c.it.old.map nW,aW<|c.it.new.map nW,aj c.it.label,aj c.it.for_,iV c.it.start.kind,iV c.it.start.day,aj c.it.start.event,iV c.it.act,iV c.it.item,iV c.it.day,aj c.it.event,aW<|c.it.by_.map NE]];let l:=ay [iV (au a.2.2 c.act).kind,iV (au a.2.2 c.act).day,aj (au a.2.2 c.act).event];have m:=ft e.1 j;have:=al m;have n:=fJ (enc:=aU) e.1 j;have o:=ch (J:=fun b c=>OnR day p a.2.2 ds b c.1 c.2.1 c.2.2) (a:=b.2.2) j e.2;Kt 0 m<|Mx n<|Kp 5 (jr c.it.kind)<|Mb (ct c.it.kind) (fun _=>Ms (Cv day p a.2.2 ds c) (fun d=>K1 4 (.look l) (hlk a.2.2 c.act)<|Kp 1 (gq (au a.2.2 c.act) c ds<|by(omega))<|M3 (.efx false q8<|av [aZ 1 false 0 q5,aZ 1 false 0 [aj p],aZ 1 false 0 [aE 4 (b.2.2.1+1) 0 (b.2.2.2.1+1) none],AObj.map (bv aw a.2.2 0) a.2.2.length,aZ 28 true (b.2.2.1+1)<|(b.2.2.2.2++[c]).map aU,aZ 28 false 0 k]) (D9 rt (tR 28 true b.2.2.1 6<|aX xq b.2.2.2.2) (tM a.2.2.length 6<|af (f:=aw) (fun _=>rfl) a.2.2 0) rt rt rt ti) ti (Zp day p a.2.2 ds c b.2.2.1 b.2.2.2.1 b.2.2.2.2 d (by exact o.len)<|by(have z:=o.small;have z2:=o.len;simp only[lC]at z;omega))<|Kl 0 46 (dq b.1)<|K1 0 (.frz 5 [1,4,7,26,27,28]) (re (tR 28 true (b.2.2.1+1) 5<|aX xq<|b.2.2.2.2++[c]) (tM a.2.2.length 5<|af (f:=aw) (fun _=>rfl) a.2.2 0) rt rt rt ti)<|Mf<|f (.inr (b.1+1,i,(b.2.2.1+1,b.2.2.2.1+1,b.2.2.2.2++[c]))) (et (bW e.1 j) (by exact o.new (by assumption) (by assumption) rfl:(OnR day p a.2.2 ds i (b.2.2.1+1) (b.2.2.2.1+1) (b.2.2.2.2++[c]))))<|dt j) fun m=>K1 4 (.look l) (hlk a.2.2 c.act)<|Kp 1 (gq (au a.2.2 c.act) c ds<|by(omega))<|M3 (.efx true q8<|av [aZ 1 false 0 q5,aZ 1 false 0 [aj p],aZ 1 false 0 g,AObj.map (bv aw a.2.2 0) a.2.2.length,aZ 28 true b.2.2.1 h,aZ 28 false 0 k]) (D9 rt (tR 28 true b.2.2.1 6<|aX xq b.2.2.2.2) (tM a.2.2.length 6<|af (f:=aw) (fun _=>rfl) a.2.2 0) rt rt rt ti) (D9 (aY<|some<|aZ 28 false 0 k) (aY<|some<|aZ 28 true b.2.2.1 h) (aY d) (aY<|some<|aZ 1 false 0 g) (aY q10) (aY q11) ti) (Zr day p a.2.2 ds c b.2.2.1 b.2.2.2.1 b.2.2.2.2 m)<|Kl 0 46 (dq b.1)<|K1 0 (.frz 5 [1,4,7,26,27,28]) (re (tR 28 true b.2.2.1 5<|aX xq b.2.2.2.2) (tM a.2.2.length 5<|af (f:=aw) (fun _=>rfl) a.2.2 0) rt rt rt ti)<|Mf<|f (.inr (b.1+1,i,(b.2.2.1,b.2.2.2.1,b.2.2.2.2))) (et (bW e.1 j) (by exact o.nil (by assumption):(OnR day p a.2.2 ds i b.2.2.1 b.2.2.2.1 b.2.2.2.2)))<|dt j) fun _=>Kl 0 46 (dq b.1)<|K1 0 (.frz 5 [1,4,7,26,27,28]) (re (tR 28 true b.2.2.1 5<|aX xq b.2.2.2.2) (tM a.2.2.length 5<|af (f:=aw) (fun _=>rfl) a.2.2 0) rt rt rt ti)<|Mf<|f (.inr (b.1+1,i,(b.2.2.1,b.2.2.2.1,b.2.2.2.2))) (et (bW e.1 j) (by exact o.no (by assumption):(OnR day p a.2.2 ds i b.2.2.1 b.2.2.2.1 b.2.2.2.2)))<|dt j) fun d e f g _ h i=>Kt 0 g<|Mx h<|K1 7 (.upd (bv aw (iW d.number d.start a.2.2) 0) (iW d.number d.start a.2.2).length) (hup a.2.2 d)<|Kl 0 23 (dq a.1)<|K1 0 (.frz 4 [0,1,4,12,13,14]) (vS (tM (iW d.number d.start a.2.2).length 4<|af (f:=aw) (fun _=>rfl) (iW d.number d.start a.2.2) 0) rt rt rt ti)<|Mf<|c (a.1+1,e,iW d.number d.start a.2.2) (et (bW b.1 f) (by exact i:(lV L []=lV e (iW d.number d.start a.2.2))))<|dt f
/-- What is in force on a day for a purpose. -/
noncomputable def Zq(day:Int)(p:aT)(L:List PAct)(ds:List PDeed):List PDeed:=sX day p (lV L []) ds ds
theorem X9(gs:List PGaz)(day:Int)(p:aT)(hc:kD 42 [.ls (gs.map ap),.func (.func 95) [] [.ptr 1 0 0 0,.ptr 0 0 0 0,.ptr 2 0 0 0]] (av [iR day,gO p,dU]) (.tuple []) (av [iR day,gO p,dU])):kP 62 [iV day,.str p,.ls (gs.map ap)] (.ls (([]:List PDeed).map aU)):=by
  exact bM Tryz.func62<|Ke 5 hc<|Kf 1 bL
theorem X8(gs:List PGaz)(day:Int)(p:aT)(X:List PDeed)(k:Nat)(hz:0<X.length)(hb:X.length<2^40)(hc:kD 42 [.ls (gs.map ap),.func (.func 95) [] [.ptr 1 0 0 0,.ptr 0 0 0 0,.ptr 2 0 0 0]] (av [iR day,gO p,dU]) (.tuple []) (av [iR day,gO p,gH 3 k X.length,pL k X])):kP 62 [iV day,.str p,.ls (gs.map ap)] (.ls (X.map aU)):=by
  let q:=List.map aU X;exact bM Tryz.func62<|Ke 5 hc<|Mg 1<|M2 (.fsl 0 [] 6 q) ti (b6 (aY k) (tA aU X X.length rfl)<|aX xq X)<|Ml 6 (eT q false<|aX xq X)<|Mf<|bp<|aW q
theorem YQ(gs:List PGaz)(L:List PAct)(ds:List PDeed)(day:Int)(p:aT)(hL:L.length<10000)(hd:ds.length<100000)(ha:kP 55 [.ls (gs.map ap)] (.ls (L.map aa)))(hi:kP 36 [.ls (gs.map ap)] (.ls (ds.map aU))):kP 62 [iV day,.str p,.ls (gs.map ap)] (.ls ((Zq day p L ds).map aU)):=by
  by_cases hE:Zq day p L ds=[]
  · rw[hE];exact X9 gs day p (XK gs L ds day p hL hd ha hi hE)
  · have hl:(Zq day p L ds).length≤ds.length:=List.length_filter_le ..
    exact X8 gs day p _ _ (pA.2 hE) (by omega) (XJ gs L ds day p hL hd ha hi hE)
/-- The book with nothing in it. -/
def vT:TUnit:=⟨0,0,0,0,[],[],[],[]⟩
theorem Rw:OkB vT:=⟨by decide,by decide,fun x hx=>by
  have e:x=vT:=by simpa[vT,bu,du]using hx
  subst e;exact⟨bN _,bN _⟩⟩
theorem Xf(X:List PDeed)(hl:X.length<2^30)(ho:∀d,d∈X→x9 d.it):kP 63 [zU,.ls (X.map aU)] (.tuple [eU (dg vT X),.ls ((fe vT X).map iC)]):=
  (SY vT X Rw hl ho).args (.cons (wU _ _ (by kernel_rfl)).1 (.cons (Le.refl _) .nil))
theorem Rm(X:List PDeed)(hl:X.length<2^30)(ho:∀d,d∈X→x9 d.it):kP 48 [.ls (X.map aU)] (.tuple [eU (dg vT X),.ls ((fe vT X).map iC)]):=by
  have h:=Xf X hl ho
  exact bM Tryz.func48<|Kp 3 h<|Kf 3<|bp<|b9 [ay [iV (dg vT X).act,iV (dg vT X).item,iV (dg vT X).n,iV (dg vT X).kind,aj (dg vT X).label,aW<|List.map aQ (dg vT X).head,aW<|List.map aQ (dg vT X).words,aW<|List.map aV (dg vT X).kids],aW<|(fe vT X).map iC]
theorem UF(gs:List PGaz)(day:Int)(p:aT)(X:List PDeed)(hon:kP 62 [iV day,.str p,.ls (gs.map ap)] (.ls (X.map aU))):kP 47 [iV day,.str p,.ls (gs.map ap)] (.ls (X.map aU)):=by
  exact bM Tryz.func47<|Kp 3 hon<|Kf 0<|bp<|aW<|X.map aU
theorem RL(gs:List PGaz)(day:Int)(p:aT)(X:List PDeed)(hl:X.length<2^30)(ho:∀d,d∈X→x9 d.it)(hon:kP 62 [iV day,.str p,.ls (gs.map ap)] (.ls (X.map aU))):kP 27 [iV day,.str p,.ls (gs.map ap)] (eU (dg vT X)):=by
  have h1:=UF gs day p X hon
  have h2:=Rm X hl ho
  exact bM Tryz.func27<|Kp 3 h1<|Mp h2<|Kf 7<|bp<|ay [iV (dg vT X).act,iV (dg vT X).item,iV (dg vT X).n,iV (dg vT X).kind,aj (dg vT X).label,aW<|List.map aQ (dg vT X).head,aW<|List.map aQ (dg vT X).words,aW<|List.map aV (dg vT X).kids]
theorem Pj(l m:List PWord)(hl:l.length<2^60)(hm:m.length<2^60):kP 21 [.ls (l.map aQ),.ls (m.map aQ)] (.bool (cG CM l m)):=by
  have rr0 b' (h:(cG CM l m)=b':=by first|exact nX eR hj0|exact lm eR|(rw[iB zD0 hr0 eR hj0];simp only[CM,aS,ax,bS, *];first|done|rfl)):=h;exact bM Tryz.func21<|Kl 2 7 (ln aQ l)<|Kl 1 9 (ln aQ m)<|Kc 0 (Int.ofNat l.length) (Int.ofNat m.length) (fun _ _=>Ky 0<|rr0 false) fun _ _=>Mg 0<|tJ aQ l [0,1,5] (fun a _=>([aW<|l.map aQ,aW<|m.map aQ,nV a],[])) (fun a=>cG CM l m=cG CM a (m.drop<|l.length-a.length)) (by(exact Aa)) (fun _ _ zD0 _ hr0 a hj0=>Kl 2 13 (ln aQ l)<|Kh 0 a<|Ky 0<|rr0 true) fun a _ zD0 _ b c d hr0 e _ f hj0=>Kl 2 13 (ln aQ l)<|Kt 0 e<|Kx 1 f<|Kx 2 (aI aQ (by(simp only[oN,lM,lS]at *;omega):a<(m).length))<|Kv 0 (yy (d:=(Tryz.prog).underlying 91) (n:=4) (l:=(0,2)::(1,1)::(2,1)::(3,1)::[]) (xs:=[aj b.text,iV b.act,iV b.item,iV b.at_]) (ys:=[aj (gD m a).text,iV (gD m a).act,iV (gD m a).item,iV (gD m a).at_]) (H:=AHeap.mk 1000000 Tr.nil) rfl<|m9 (e:=eX b.text (gD m a).text) rfl rfl rfl<|m9 (e:=ah b.act (gD m a).act) rfl rfl rfl<|m9 (e:=ah b.item (gD m a).item) rfl rfl rfl<|Ay (e:=ah b.at_ (gD m a).at_) rfl rfl rfl rfl)<|Mn (eX b.text (gD m a).text &&(ah b.act (gD m a).act &&(ah b.item (gD m a).item &&ah b.at_ (gD m a).at_))) (fun _=>Kf 0<|cb<|rr0 false) fun _=>Kl 1 16 (dq a)<|Kf 0<|d<|by(rw[iB zD0 hr0 (by(simp only[oN]at *;omega)) hj0];simp only[CM,aS,ax,bS, *];first|done|rfl)
theorem V3:∀(u:TUnit),mb u→∀v,mb v→kP 9 [eU u,eU v] (.bool (gg u v)):=by
  refine TUnit.ind fun u ih hu v hv=>?_
  obtain⟨u1,u2,u3,u4⟩:=ll.1 hu
  obtain⟨v1,v2,v3,v4⟩:=ll.1 hv
  have hh:=Pj u.head v.head u1 v1
  have hw:=Pj u.words v.words u2 v2
  have hk:∀a,a∈u.kids→∀b,b∈v.kids→kP 9 [eU a,eU b] (.bool (gg a b)):=fun a ha b hb=>ih a ha (u4 a ha) b (v4 b hb)
  have rr0 b' (h:(gg u v)=b':=by(rw[RV];first|(rw[nX (by(simp only[oN]at *;omega)) hj0];simp only[bj,bq,bx,aS,ax,bS, *];done)|(rw[show cG gg u.kids v.kids=false from lm (by(simp only[oN]at *;omega))];simp only[bj,bq,bx,aS,ax,bS, *];done)|(rw[iB zD0 hr0 (by(simp only[oN]at *;omega)) hj0];simp only[bj,bq,bx,aS,ax,bS, *];done)|(simp only[bj,bq,bx,aS,ax,bS, *];first|done|rfl))):=h;exact bM Tryz.func9<|Kv 6 (DA ((Tryz.prog).underlying 24) u.act u.item u.n v.act v.item v.n<|av [aZ 8 false 0 [ay [iV u.act,iV u.item,iV u.n,iV u.kind,aj u.label,aW<|u.head.map aQ,aW<|u.words.map aQ,aW<|u.kids.map aV]],aZ 8 false 0 [ay [iV v.act,iV v.item,iV v.n,iV v.kind,aj v.label,aW<|v.head.map aQ,aW<|v.words.map aQ,aW<|v.kids.map aV]]])<|Kn 0 (ah u.act v.act&&(ah u.item v.item&&ah u.n v.n)) (fun c=>Mt (bo c)<|Mt (bo c)<|Mt (bo c)<|Mt (bo c)<|MV (bo c)<|Ky 9<|rr0 false) fun c=>Kh 0 (bw c)<|Kh 0 (bw c)<|Kh 0 (bw c)<|Kh 0 (bw c)<|Kw 0 (bw c)<|Kc 0 u.kind v.kind (fun c _=>Mt (bo c)<|Mt (bo c)<|Mt (bo c)<|Mt (bo c)<|MV (bo c)<|Ky 7<|rr0 false) fun c _=>Kh 0 (bw c)<|Kh 0 (bw c)<|Kh 0 (bw c)<|Kh 0 (bw c)<|Kw 0 (bw c)<|Kn 0 (eX u.label v.label) (fun c=>Mt (bo c)<|Mt (bo c)<|Mt (bo c)<|Mt (bo c)<|Mt (bo c)<|MV (bo c)<|Ky 5<|rr0 false) fun c=>Kh 0 (bw c)<|Kh 0 (bw c)<|Kh 0 (bw c)<|Kh 0 (bw c)<|Mp hh<|Mh (bw c)<|Kw 0 (bw c)<|Kn 0 (cG CM u.head v.head) (fun c=>Mt (bo c)<|Mt (bo c)<|Mt (bo c)<|Mt (bo c)<|Mt (bo c)<|MV (bo c)<|Ky 3<|rr0 false) fun c=>Kh 0 (bw c)<|Kh 0 (bw c)<|Kh 0 (bw c)<|Kh 0 (bw c)<|Mp hw<|Mh (bw c)<|Kw 0 (bw c)<|Kn 0 (cG CM u.words v.words) (fun c=>Mt (bo c)<|Mt (bo c)<|Mt (bo c)<|Mt (bo c)<|Mt (bo c)<|Mt (bo c)<|MV (bo c)<|Ky 1<|rr0 false) fun c=>Kh 0 (bw c)<|Kh 0 (bw c)<|Kl 0 44 (ln aV u.kids)<|Mh (bw c)<|Kh 0 (bw c)<|Kh 0 (bw c)<|Kl 0 47 (ln aV v.kids)<|Mh (bw c)<|Kw 0 (bw c)<|Mn (ah (Int.ofNat u.kids.length)<|Int.ofNat v.kids.length) (fun c=>have:=G3 c;Ky 0<|rr0 false) fun c=>have:=kh c;Mg 0<|tJ aV u.kids [2,3,5] (fun c _=>([bJ 0 0 0 0,bJ 1 0 0 0,nV c],[aZ 8 false 0 [ay [iV u.act,iV u.item,iV u.n,iV u.kind,aj u.label,aW<|u.head.map aQ,aW<|u.words.map aQ,aW<|u.kids.map aV]],aZ 8 false 0 [ay [iV v.act,iV v.item,iV v.n,iV v.kind,aj v.label,aW<|v.head.map aQ,aW<|v.words.map aQ,aW<|v.kids.map aV]]])) (fun c=>cG gg u.kids v.kids=cG gg c (v.kids.drop<|u.kids.length-c.length)) (by(exact Aa)) (fun _ _ zD0 _ hr0 c hj0=>Kl 3 53 (ln aV u.kids)<|Kh 0 c<|Ky 0<|rr0 true) fun c _ zD0 _ d e f hr0 g _ i hj0=>have i:=i.trans<|congrArg some<|aO d;Kl 3 53 (ln aV u.kids)<|Kt 0 g<|Kx 2 i<|Kx 3 ((aI aV (by(simp only[oN,lM,lS]at *;omega):c<(v.kids).length)).trans<|congrArg some<|aO _)<|Kp 0 (hk d (by exact aN zD0 hr0) (gD v.kids c)<|by exact gx (by(simp only[oN]at *;omega)))<|Kn 0 (gg d<|gD v.kids c) (fun _=>Kf 0<|cb<|rr0 false) fun _=>Kl 1 56 (dq c)<|Kf 0<|f<|by(rw[iB zD0 hr0 (by(simp only[oN]at *;omega)) hj0];simp only[aS,ax,bS, *];first|done|rfl)
/-- What the bound on gazettes tells. -/
structure OkG(gs:List PGaz):Prop where
  fit:og gs
  len:gs.length≤9
  acts:∀g,g∈gs→g.acts.length≤8
  items:∀g,g∈gs→∀a,a∈g.acts→a.items.length≤24∧∀x,x∈a.items→m7 x=true
theorem GO{most:Int}:∀(l:List PAct)(n m:Int),most=24→0≤n→mW most l n=some m→0≤m∧∀a,a∈l→a.items.length≤24∧∀x,x∈a.items→m7 x=true
  |[],n,m,_,hn,h=>by simp only[mW,xg]at h;exact⟨h▸hn,fun a ha=>by cases ha⟩
  | b::r,n,m,hm,hn,h=>by
    unfold mW at h
    cases hb:BX most n b with
    |true=>rw[hb]at h;cases h
    | false=>
      rw[hb]at h
      unfold BX at hb
      simp only[BH]at hb
      obtain⟨z1,_,_,z2⟩:=hb
      have z1:=aD z1
      obtain⟨q1,q2⟩:=GO r (n+Int.ofNat b.items.length) m hm (by simp only[oN]at *;omega) h
      refine⟨q1,fun a ha=>?_⟩
      rcases fE.1 ha with rfl|ha
      · refine⟨by simp only[oN]at *;omega,fun x hx=>?_⟩
        have z3:=qh z2
        exact mK.1 z3 x hx
      · exact q2 a ha
theorem La:∀(l:List PGaz)(n:Int),0≤n→ug 24 l n=true→∀g,g∈l→g.acts.length≤8∧∀a,a∈g.acts→a.items.length≤24∧∀x,x∈a.items→m7 x=true
  |[],_,_,_,g,hg=>by cases hg
  | x::r,n,hn,h,g,hg=>by
    unfold ug at h
    cases hb:vO x with
    |true=>rw[hb]at h;cases h
    | false=>
      rw[hb]at h
      cases ha:mW 24 x.acts n with
      |none=>rw[ha]at h;cases h
      | some m=>
        rw[ha]at h
        obtain⟨q1,q2⟩:=GO x.acts n m rfl hn ha
        rcases fE.1 hg with rfl|hg
        · unfold vO at hb
          have:=aD (BH.1 hb).1
          exact⟨by simp only[oN]at *;omega,q2⟩
        · exact La r m q1 h g hg
theorem WK{gs:List PGaz}{p:aT}(hf:og gs)(h:GR gs p=true):OkG gs∧gs.length≤8:=by
  unfold GR at h
  have h1:=(oZ.1 h).1
  unfold Nt at h1
  cases hb:aC 8 (Int.ofNat gs.length)with
  |true=>rw[hb]at h1;cases h1
  | false=>
    rw[hb]at h1
    have:=aD hb
    have hl:gs.length≤8:=by simp only[oN]at *;omega
    have q:=La gs 0 (by omega) h1
    exact⟨⟨hf,by omega,fun g hg=>(q g hg).1,fun g hg=>(q g hg).2⟩,hl⟩
theorem B9:∀(ys out:List PAct),(ys.foldl kK out).length≤out.length+ys.length
  |[],out=>ao _
  | a::r,out=>by
    have:=B9 r (kK out a);have:=(OR out a).2
    simp only[mB,lC];omega
theorem Aq:∀(gs:List PGaz),(∀g,g∈gs→g.acts.length≤8)→∀out,(bV gs out).length≤out.length+8*gs.length
  |[],_,out=>ao _
  | g::r,hb,out=>by
    have:=Aq r (fun x hx=>hb x (fk _ hx)) (g.acts.foldl kK out)
    have:=B9 g.acts out
    have:=hb g (e9 ..)
    simp only[bV,mB,lC]at *
    omega
theorem OP{out:List PAct}{a b:PAct}(h:b∈kK out a):b∈out∨b=a:=by
  unfold kK at h
  split at h
  · exact .inl h
  · rcases je.1 h with h|h
    · exact .inl h
    · exact .inr (mr.1 h)
theorem B8:∀(ys out:List PAct)(b:PAct),b∈ys.foldl kK out→b∈out∨b∈ys
  |[],out,b,h=>.inl h
  | a::r,out,b,h=>by
    rcases B8 r (kK out a) b h with h|h
    · rcases OP h with h|rfl
      · exact .inl h
      · exact .inr (e9 ..)
    · exact .inr (fk _ h)
theorem AU:∀(gs:List PGaz)(out:List PAct)(b:PAct),b∈bV gs out→b∈out∨∃g,g∈gs∧b∈g.acts
  |[],out,b,h=>.inl h
  | g::r,out,b,h=>by
    rcases AU r (g.acts.foldl kK out) b h with h|⟨g2,q1,q2⟩
    · rcases B8 g.acts out b h with h|h
      · exact .inl h
      · exact .inr ⟨g,e9 ..,h⟩
    · exact .inr ⟨g2,fk _ q1,q2⟩
theorem vX:∀(l:List PAct),(∀a,a∈l→a.items.length≤24)→(nj l).length≤24*l.length
  |[],_=>ao _
  | a::r,h=>by
    have:=vX r fun b hb=>h b (fk _ hb)
    have:=h a (e9 ..)
    simp only[nj,List.flatMap_cons,lA,lu,lC]at *
    omega
theorem OkG.act{gs:List PGaz}(h:OkG gs){a:PAct}(ha:a∈fg gs):a.items.length≤24∧(∀x,x∈a.items→m7 x=true)∧Q6 a:=by
  have ha:=(pm gs).mem_iff.1 ha
  rcases AU gs [] a ha with q|⟨g,h1,h2⟩
  · cases q
  · exact⟨(h.items g h1 a h2).1,(h.items g h1 a h2).2,(h.fit.2 g h1).2 a h2⟩
/-- The items as they stand. -/
noncomputable def gj(gs:List PGaz):List PDeed:=bR (aB (fg gs) []) (fg gs)
theorem OkG.lens{gs:List PGaz}(h:OkG gs):(fg gs).length≤72∧(gj gs).length≤1728:=by
  have h1:=Aq gs h.acts []
  have h2:=(pm gs).length_eq
  have h3:=vX (fg gs) fun a ha=>(h.act ha).1
  have h4:=h.len
  have h5:(gj gs).length=(nj (fg gs)).length:=cQ ..
  simp only[lN]at h1
  omega
theorem OkG.all{gs:List PGaz}(h:OkG gs):kP 55 [.ls (gs.map ap)] (.ls ((fg gs).map aa))∧kP 36 [.ls (gs.map ap)] (.ls ((gj gs).map aU)):=by
  have h1:=h.lens
  have h2:=(pm gs).length_eq
  have h3:(gj gs).length=(nj (fg gs)).length:=cQ ..
  have h4:=h.len
  exact⟨LM gs h.fit (fun g hg=>mp (h.acts g hg) (by decide)) (by omega) (by omega),Qy gs h.fit (fun g hg=>mp (h.acts g hg) (by decide)) (by omega) (by omega) (fun a ha=>mp (h.act ha).1 (by decide)) (by omega)⟩
theorem Xk{x y:PItem}(h:m7 x=true)(hy:y∈x.by_):m7 y=true:=by
  rw[D8]at h
  simp only[bz]at h
  have:=mK.1 h.2.2.2.2.2 y hy
  unfold Hh at this
  exact(oZ.1 this).2
theorem Xj{x y:PItem}(h:nb x)(hy:y∈x.by_):nb y:=(qA.1 h).2.2.2.2.2.2 y hy
theorem Fy{K V:Type}{keq:K→K→Bool}{k:K}{v:V}:∀{l:List (K×V)}{e:K×V},e∈fF keq k v l→e∈l∨e.2=v
  | [],e,h=>by
    rw[fF,mr]at h;exact .inr (by rw[h])
  | (j,u)::r,e,h=>by
    rw[fF]at h
    cases q:keq k j with
    | true=>
      rw[q]at h
      rcases fE.1 h with h|h
      · exact .inr (by rw[h])
      · exact .inl (fk _ h)
    | false=>
      rw[q]at h
      rcases fE.1 h with h|h
      · exact .inl (by rw[h];exact e9 ..)
      · rcases Fy (l:=r) h with h|h
        · exact .inl (fk _ h)
        · exact .inr h
theorem Gp{K V:Type}{keq:K→K→Bool}{k:K}{v:V}:∀{l:List (K×V)},n8 keq k l=some v→∃e,e∈l∧e.2=v
  |[],h=>by cases h
  | (j,u)::r,h=>by
    rw[n8]at h
    cases q:keq k j with
    |true=>rw[q]at h;exact⟨(j,u),e9 ..,JA h⟩
    | false=>
      rw[q]at h
      obtain⟨e,h1,h2⟩:=Gp (l:=r) h
      exact⟨e,fk _ h1,h2⟩
theorem NM{m:List ((Int×Int)×PItem)}{x:PItem}(hm:∀e,e∈m→x9 e.2)(h1:m7 x=true)(h2:nb x):∀e,e∈jF m x→x9 e.2:=by
  unfold jF
  split
  · rename_i h
    simp only[bz]at h
    have hl:=al h.1.2
    have hy:gD x.by_ 0∈x.by_:=gx (by simp only[oN]at hl;omega)
    intro e he
    rcases Fy he with q|q
    · exact hm e q
    · rw[q];exact PP (Xj h2 hy) (Xk h1 hy)
  · exact hm
theorem C2:∀(xs:List PItem)(m:List ((Int×Int)×PItem)),(∀e,e∈m→x9 e.2)→(∀x,x∈xs→m7 x=true∧nb x)→∀e,e∈xs.foldl jF m→x9 e.2
  |[],_,hm,_=>hm
  |x::r,m,hm,h=>C2 r (jF m x) (NM hm (h x (e9 ..)).1 (h x (e9 ..)).2) fun y hy=>h y (fk _ hy)
theorem C1:∀(l:List PAct)(m:List ((Int×Int)×PItem)),(∀e,e∈m→x9 e.2)→(∀a,a∈l→∀x,x∈a.items→m7 x=true∧nb x)→∀e,e∈aB l m→x9 e.2
  |[],_,hm,_=>hm
  |a::r,m,hm,h=>C1 r (a.items.foldl jF m) (C2 a.items m hm (h a (e9 ..))) fun b hb=>h b (fk _ hb)
theorem Am(a:PAct):∀(l:List PItem)(i:Nat)(d:PDeed),d∈cq a l i→d.it∈l
  |[],_,d,h=>by cases h
  | x::r,i,d,h=>by
    rcases fE.1 h with rfl|h
    · exact e9 ..
    · exact fk _ (Am a r _ d h)
theorem OkG.deed{gs:List PGaz}(h:OkG gs){d:PDeed}(hd:d∈gj gs):x9 d.it:=by
  have hi:∀a,a∈fg gs→∀x,x∈a.items→m7 x=true∧nb x:=fun a ha x hx=>⟨(h.act ha).2.1 x hx,(h.act ha).2.2.2 x hx⟩
  obtain⟨o,ho,rfl⟩:=j9.1 hd
  obtain⟨a,ha,hoa⟩:=List.mem_flatMap.1 ho
  have h1:=hi a ha _ (Am a _ _ _ hoa)
  have h2:x9 o.it:=PP h1.2 h1.1
  unfold na
  split
  · rename_i hc
    have hc:=(oZ.1 hc).1
    unfold qr at hc
    show x9 (H3 (aB (fg gs) []) o)
    unfold H3
    cases q:n8 py (o.act,o.item) (aB (fg gs) [])with
    |none=>rw[q]at hc;cases hc
    | some v=>
      obtain⟨e,e1,e2⟩:=Gp q
      have:=C1 (fg gs) [] (fun e he=>by cases he) hi e e1
      rw[e2]at this
      exact this
  · exact h2
/-- What is in force. -/
noncomputable def AJ(day:Int)(p:aT)(gs:List PGaz):List PDeed:=Zq day p (fg gs) (gj gs)
noncomputable def dB(day:Int)(p:aT)(gs:List PGaz):TUnit:=dg vT (AJ day p gs)
theorem OkG.force{gs:List PGaz}(h:OkG gs)(day:Int)(p:aT):(AJ day p gs).length<2^30∧(∀d,d∈AJ day p gs→x9 d.it)∧kP 62 [iV day,.str p,.ls (gs.map ap)] (.ls ((AJ day p gs).map aU)):=by
  have hl:=h.lens
  have h1:(AJ day p gs).length≤(gj gs).length:=List.length_filter_le ..
  exact⟨by omega,fun d hd=>h.deed (List.mem_filter.1 hd).1,YQ gs _ _ day p (by omega) (by omega) h.all.1 h.all.2⟩
theorem OkG.book{gs:List PGaz}(h:OkG gs)(day:Int)(p:aT):kP 27 [iV day,.str p,.ls (gs.map ap)] (eU (dB day p gs)):=
  RL gs day p _ (h.force day p).1 (h.force day p).2.1 (h.force day p).2.2
theorem OkG.okB{gs:List PGaz}(h:OkG gs)(day:Int)(p:aT):OkB (dB day p gs):=Hm Rw (h.force day p).2.1
end Go.Proofs.YtjokefckffbpeaaGreatDoor
