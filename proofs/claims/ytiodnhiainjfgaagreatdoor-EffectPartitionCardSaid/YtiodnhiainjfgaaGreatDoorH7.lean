/- Functions walked: what each of them answers, for Each item of an act that is in force either takes effect or is reported as a failure with the reason that consolidation reports: part 7. Conditions: those that each theorem names. -/
import Derived.Test.YtiodnhiainjfgaaGreatDoorH6
namespace Go.Proofs.YtiodnhiainjfgaaGreatDoor
open Go Go.Ev
theorem wQ:kP 88 [.nils] (.ls ((iP []).map aJ)):=(iI [] (by simp)).onArgs (.cons Le.nils .nil)
theorem CP{g:Int→Bool}{K:List Int}{x e:Nat}{S:List PSpan}(h:S=jO g (K.drop (x-1)))(h1:1≤x)(h2:x<K.length)(hg:g (gD K (x-1))=true)(he:e=x+1):S=⟨gD K (x-1),gD K x⟩::jO g (K.drop (e-1)):=by rw[h,Be h1 h2,hg,he]
theorem CR{g:Int→Bool}{K:List Int}{x e:Nat}{S:List PSpan}(h:S=jO g (K.drop (x-1)))(h1:1≤x)(h2:x<K.length)(hg:g (gD K (x-1))=false)(he:e=x+1):S=jO g (K.drop (e-1)):=by rw[h,Be h1 h2,hg,he]
theorem X1:bx (du (o7 []))=[]:=rx (by have z:=zN [];exact Nat.le_zero.1 z)
theorem Wy{A B x y:List PSpan}(h1:A=x)(h2:B=y):x++y=A++B:=by rw[h1,h2]
theorem QT{A B x:List PSpan}(h1:A=x)(h2:B=[]):x=A++B:=by rw[h1,h2,dr]
theorem UB{A B y:List PSpan}(h1:A=[])(h2:B=y):y=A++B:=by rw[h1,h2];rfl
theorem SH{A r:List PSpan}{w:PSpan}(h:A=w::r)(hl:A.length≤1048577):r.length<2^30:=by rw[h,lC]at hl;omega
theorem RN{A B:List PSpan}{w v:PSpan}{r s:List PSpan}(h:A=w::r)(k:B=v::s)(hl:A.length≤1048577)(kl:B.length≤1048577):small (r.length+1+((v::s).map aJ).length) 16=true:=by
  rw[h,lC]at hl;rw[k,lC]at kl
  rw[lM,lC];refine ef (m:=2^31) ?_ ?_ ?_<;>omega
theorem Jq{B:List PSpan}{v:PSpan}{s:List PSpan}(k:B=v::s)(kl:B.length≤1048577):small ((v::s).map aJ).length 16=true:=by
  rw[k,lC]at kl
  rw[lM,lC];refine ef (m:=2^31) ?_ ?_ ?_<;>omega
def Q2(F:Nat)(A:List PSpan)(B:List PSpan)(z20:List PSpan):Prop:=z20=A++B
noncomputable def Q1(F:Nat)(A:List PSpan)(B:List PSpan)(z20:List PSpan):List AV×List AObj:=([AV.ls (A.map aJ),AV.ls (B.map aJ),AV.func (Fn.func F) [] [],AV.nils,AV.ls (z20.map aJ),nV z20.length,iV 0],[])
def NZ(F:Nat)(A:List PSpan)(B:List PSpan)(z20:List PSpan)(z37:List Int):Prop:=z37=iZ z20
noncomputable def NQ(F:Nat)(A:List PSpan)(B:List PSpan)(z20:List PSpan)(z37:List Int):List AV×List AObj:=([AV.ls (A.map aJ),AV.ls (B.map aJ),AV.func (Fn.func F) [] [],AV.ls (z37.map bK)],[])
def M9(F:Nat)(A:List PSpan)(B:List PSpan)(z20:List PSpan)(z37:List Int):Prop:=z37=iZ z20
noncomputable def M8(F:Nat)(A:List PSpan)(B:List PSpan)(z20:List PSpan)(z37:List Int):List AV×List AObj:=([AV.ls (A.map aJ),AV.ls (B.map aJ),AV.func (Fn.func F) [] [],AV.ls (z37.map bK)],[])
theorem KG(F:Nat)(op:Bool→Bool→Bool)(hF:∀x y,aI Tryz.prog G F [.bool x,.bool y] (.bool (op x y)))(e0:op false false=false)(a b:List PSpan)(ha:a.length<2^30)(hb:b.length<2^30):
    aI Tryz.prog G 275 [.ls (a.map aJ),.ls (b.map aJ),.func (.func F) [] []] (.ls ((rn op a b).map aJ)):=by
  have nA:=iI a ha
  have nB:=iI b hb
  have hA:=mZ a
  have hB:=mZ b
  have hd:=NX e0 (a:=a) (b:=b) rfl rfl
  generalize iP a=A at *
  generalize iP b=B at *
  have lA:=hA.len
  have lB:=hB.len
  have hasA:∀d,aI Tryz.prog G 87 [.ls (A.map aJ),.int .i64 d] (.bool (ic A d)):=fun d=>IU A d hA.sort (by omega)
  have hasB:∀d,aI Tryz.prog G 87 [.ls (B.map aJ),.int .i64 d] (.bool (ic B d)):=fun d=>IU B d hB.sort (by omega)
  obtain⟨g,hg⟩:∃g:Int→Bool,g=fun d=>op (ic A d) (ic B d):=⟨_,rfl⟩
  have hgv:∀d v0,op (ic A d) (ic B d)=v0→g d=v0:=fun d v0 h=>by rw[hg];exact h
  rw[←hg]at hd
  have hcl:∀x,x=A++B→(iZ x).length<2^30:=fun x hx=>by
    have z:=zN x
    rw[hx,dN]at z
    rw[hx];omega
  have hll:∀x,x=A++B→x.length<2^22:=fun x hx=>by rw[hx,dN];omega
  obtain⟨res,hres⟩:∃res,res=rn op a b:=⟨_,rfl⟩
  rw[←hres]at hd ⊢
  have hdone:∀x y z,x=A++B→y=iZ x→jO g y=z→iP z=res:=fun x y z h1 h2 h3=>by rw[←h3,h2,h1];exact hd
  clear hd hg hres hA hB
  have rr0 b' (h:(List.map aJ res)=b':=by first|rfl|exact hdone _ _ _ hz20 hz37 (by rw[hx1.2.2,kF hx1.1 (by(first|omega|(simp only[aH]at *;omega)))])|exact(hdone _ _ _ hz20 hz37 (by rw[hx1.2.2.2.2,kF hx1.1 (by(first|omega|(simp only[aH]at *;omega))),dr]))|(rw[hdone _ _ _ hz20 hz37 (by rw[hx1.2.2,kF hx1.1 (by(first|omega|(simp only[aH]at *;omega)))])])|(rw[hdone _ _ _ hz20 hz37 (by rw[hx1.2.2.2.2,kF hx1.1 (by(first|omega|(simp only[aH]at *;omega))),dr])])):=h;exact bu Tryz.func275<|Kp 1 nA<|Kp 0 nB<|Mg 2<|M0 .inn<|Mj (List PSpan) [0,1,2,7,20,21,22] (Q1 F A B) (Q2 F A B) (fun c=>Mg 0<|Mc A (fun e=>Ml 17 (fX<|by rw[e];rfl:Le (aW []) (aW (List.map aJ A)))<|Mz 17 (fun(_:([]:List AV)=[])=>Mg 1<|Mc B (fun e=>Ml 19 (fX<|by rw[e];rfl:Le (aW []) (aW (List.map aJ B)))<|Kl 0 20 bo<|Kf 1<|c [] (by exact QT (by assumption) (by assumption):[]=A++B)) fun e f i=>Ml 19 (fX<|by rw[i]:Le (aW (List.map aJ (e::f))) (aW (List.map aJ B)))<|M2 .apl (et (by exact pK _ _:List.map aJ (e::f)≠[])<|fM 2 aJ (e::f) fun _=>rfl) (by exact Jq (by assumption) lB:small (List.map aJ (e::f)).length 16=true)<|M2 (.fsl 0 [0,1,2,7] 20<|List.map aJ<|e::f) True.intro (cn (aU 0) (tA aJ (e::f) (List.map aJ<|e::f).length (by(simp only[b6,cF,dN];done):(e::f).length=(List.map aJ (e::f)).length))<|aX Ur<|e::f)<|Ml 20 (fw (List.map aJ<|e::f) false<|aX Ur<|e::f)<|Kl 0 21 (ln aJ<|e::f)<|Kf 0<|c (e::f) (by exact UB (by assumption) (by assumption):e::f=A++B))<|Mg 1<|Mc B (fun e=>Ml 19 (fX<|by rw[e];rfl:Le (aW []) (aW (List.map aJ B)))<|Kl 0 20 (fw [] true (aU 0:aq ([])=0))<|Kf 1<|c [] (by exact QT (by assumption) (by assumption):[]=A++B)) fun e f i=>Ml 19 (fX<|by rw[i]:Le (aW (List.map aJ (e::f))) (aW (List.map aJ B)))<|M2 .apl (et (by exact pK _ _:List.map aJ (e::f)≠[])<|fM 2 aJ (e::f) fun _=>rfl) (by exact Jq (by assumption) lB:small (List.map aJ (e::f)).length 16=true)<|M2 (.fsl 0 [0,1,2,7] 20<|List.map aJ<|e::f) True.intro (cn (aU 0) (tA aJ (e::f) (List.map aJ<|e::f).length (by(simp only[b6,cF,dN];done):(e::f).length=(List.map aJ (e::f)).length))<|aX Ur<|e::f)<|Ml 20 (fw (List.map aJ<|e::f) false<|aX Ur<|e::f)<|Kl 0 21 (ln aJ<|e::f)<|Kf 0<|c (e::f) (by exact UB (by assumption) (by assumption):e::f=A++B)) fun e f i=>Ml 17 (fX<|by rw[i]:Le (aW (List.map aJ (e::f))) (aW (List.map aJ A)))<|Me (QF e f<|by exact SH (by assumption) lA)<|Mg 0<|Mc B (fun i=>Ml 19 (fX<|by rw[i];rfl:Le (aW []) (aW (List.map aJ B)))<|Mg 0<|M2 (.fsl 0 [0,1,2,7] 20<|List.map aJ<|e::f) True.intro (cn (aU 0) (tA aJ (e::f) (f.length+1) rfl)<|aX Ur<|e::f)<|Ml 20 (fw (List.map aJ<|e::f) false<|aX Ur<|e::f)<|Kl 0 21 (ln aJ<|e::f)<|Kf 0<|c (e::f) (by exact QT (by assumption) (by assumption):e::f=A++B)) fun i j k=>Ml 19 (fX<|by rw[k]:Le (aW (List.map aJ (i::j))) (aW (List.map aJ B)))<|M2 .apl (et (by exact pK _ _:List.map aJ (i::j)≠[])<|fM 2 aJ (i::j) fun _=>rfl) (cn (aU 0) (by(simp only[b6,cF,dN];done):f.length+1=(List.map aJ (e::f)).length) (by exact RN (by assumption) (by assumption) lA lB:small (f.length+1+(List.map aJ (i::j)).length) 16=true))<|M1 (.obj 0<|aZ 2 true (0+1)<|List.map aJ<|e::f++i::j) (congrArg (aZ 2 true<|0+1)<|dz (f:=aJ) (l:=e::f) (ws:=i::j))<|M2 (.fsl 0 [0,1,2,7] 20<|List.map aJ<|e::f++i::j) True.intro (cn (aU<|0+1) (tA aJ (e::f++i::j) (f.length+1+(List.map aJ<|i::j).length) (by(simp only[b6,cF,dN];done):(e::f++i::j).length=f.length+1+(List.map aJ (i::j)).length))<|aX Ur<|e::f++i::j)<|Ml 20 (fw (List.map aJ<|e::f++i::j) false<|aX Ur<|e::f++i::j)<|Kl 0 21 (ln aJ<|e::f++i::j)<|Kf 0<|c (e::f++i::j) (by exact Wy (by assumption) (by assumption):e::f++i::j=A++B)) fun c hz20=>have hz20:=hz20;lk Nat Nat (List Int) aJ c [0,1,2,7,20,21,22] (fun e _=>([aW<|A.map aJ,aW<|B.map aJ,bJ (bW F) [] [],aa,aW<|c.map aJ,nV c.length,nV e],[])) (fun e _ f i j=>([aW<|A.map aJ,aW<|B.map aJ,bJ (bW F) [] [],aG 0 f 0 i none,aW<|c.map aJ,nV c.length,nV e],[aZ 1 true f<|j.map bK])) (fun e=>o7 c=o7 e) (fun e _ f i=>f=i.length∧(0:Nat)<i.length∧o7 c=i++o7 e) (by rfl) (fun _ _ _ _ _ e f=>Kh 0 e<|Kp 0 FD<|Mj (List Int) [0,1,2,7] (NQ F A B c) (NZ F A B c) (fun e=>Kl 1 37 bo<|Kf 0<|e [] (by(unfold iZ;rw[f];exact X1.symm):[]=iZ c)) fun e hz37=>have hz37:=hz37;have:=hz37▸hcl _ hz20;Mg 1<|Rc Nat Nat Nat (List PSpan) (1:Nat) [0,1,2,7,10,11] (fun c=>([aW<|A.map aJ,aW<|B.map aJ,bJ (bW F) [] [],aW<|e.map bK,aa,nV c],[])) (fun c f i j=>([aW<|A.map aJ,aW<|B.map aJ,bJ (bW F) [] [],aW<|e.map bK,aG 0 f 0 i none,nV c],[aZ 2 true f<|j.map aJ])) (fun c=>(1:Nat)≤c∧c≤2^30∧jO g e=jO g (e.drop<|c-1)) (fun c _ f i=>(1:Nat)≤c∧c≤2^30∧f=i.length∧i.length<c∧jO g e=i++jO g (e.drop<|c-1)) (fun c=>2^31-c) (fun c _ _ _=>2^31-c) (by exact⟨ah _,by omega,rfl⟩) (fun c hx1 f i=>have hx1:=hx1;have:=hx1.1;have:=hx1.2.1;Kl 2 40 (ln bK e)<|Ka 0 (Int.ofNat c) (Int.ofNat e.length) (fun _ _=>Kl 2 46 (EY c)<|Mx (aT bK (by(simp only[aH,b6,kq]at *;omega):c-1<(e).length))<|Kp 4 (hasA<|gD e<|c-1)<|Kp 1 (hasB<|gD e<|c-1)<|Mp (hF (ic A<|gD e<|c-1)<|ic B<|gD e<|c-1)<|Mb (op (ic A<|gD e<|c-1)<|ic B<|gD e<|c-1) (fun _=>Kx 3 (aT bK (by(simp only[aH,b6,kq]at *;omega):c<(e).length))<|Kl 6 43 (iz c)<|Kf 0<|i (c+1) 0 1 [PSpan.mk (gD e<|c-1)<|gD e c] (by exact⟨by(omega),by(simp only[aH]at *;omega),rfl,by(simp only[cF,gc];omega),CP hx1.2.2 hx1.1 (by(simp only[aH]at *;omega)) (hgv _ _ (by assumption)) rfl⟩)<|by(omega)) fun _=>Kl 1 43 (iz c)<|Kf 0<|f (c+1) (by exact⟨by(omega),by(simp only[aH]at *;omega),CR hx1.2.2 hx1.1 (by(simp only[aH]at *;omega)) (hgv _ _ (by assumption)) rfl⟩)<|by(omega)) fun _ _=>Kp 0 wQ<|Kf 0<|cj<|rr0<|List.map aJ<|iP []) fun c i j k hx1 _ l=>have hx1:=hx1;have:=hx1.1;have:=hx1.2.1;Kl 2 40 (ln bK e)<|Ka 0 (Int.ofNat c) (Int.ofNat e.length) (fun _ _=>Kl 2 46 (EY c)<|Mx (aT bK (by(simp only[aH,b6,kq]at *;omega):c-1<(e).length))<|Kp 4 (hasA<|gD e<|c-1)<|Kp 1 (hasB<|gD e<|c-1)<|Mp (hF (ic A<|gD e<|c-1)<|ic B<|gD e<|c-1)<|Mb (op (ic A<|gD e<|c-1)<|ic B<|gD e<|c-1) (fun _=>Kx 3 (aT bK (by(simp only[aH,b6,kq]at *;omega):c<(e).length))<|K1 2 .app (cn (aU i) (by(rw[b6];first|exact f.1|exact hx1.2.2.1):j=(List.map aJ k).length) (by(refine ef (m:=2^31) ?_ ?_ ?_<;>first|omega|(simp only[b6,cF,dN,gc];omega)|(have z:=congrArg List.length f.2.2;rw[kZ,dN]at z;have z9:=hll _ hz20;have z2:=f.1;first|omega|(simp only[cF,gc];omega))|(have z:=hx1.2.2.2.1;have z2:=hx1.2.2.1;have z3:=hx1.2.1;first|omega|(simp only[cF,gc];omega))):small (j+1) 16=true))<|M1 (.obj 0<|aZ 2 true (i+1)<|List.map aJ<|k++[PSpan.mk (gD e<|c-1)<|gD e c]) (congrArg (aZ 2 true<|i+1)<|dz (f:=aJ) (l:=k) (ws:=[PSpan.mk (gD e<|c-1)<|gD e c]))<|Kl 2 43 (iz c)<|Kf 0<|l (c+1) (i+1) (j+1) (k++[PSpan.mk (gD e<|c-1)<|gD e c]) (by exact⟨by(omega),by(simp only[aH]at *;omega),by rw[dN,←hx1.2.2.1];rfl,by(have z:=hx1.2.2.2.1;simp only[dN,cF,gc];omega),by rw[hx1.2.2.2.2,CP rfl hx1.1 (by(simp only[aH]at *;omega)) (hgv _ _ (by assumption)) rfl];simp⟩)<|by(omega)) fun _=>Kl 1 43 (iz c)<|Kf 0<|l (c+1) i j k (by exact⟨by(omega),by(simp only[aH]at *;omega),hx1.2.2.1,by(have z:=hx1.2.2.2.1;omega),by rw[hx1.2.2.2.2,CR rfl hx1.1 (by(simp only[aH]at *;omega)) (hgv _ _ (by assumption)) rfl]⟩)<|by(omega)) fun _ _=>Mg 0<|M2 (.fsl 0 [] 66<|List.map aJ k) True.intro (cn (aU i) (tA aJ k j (by(omega):(k).length=j))<|aX Ur k)<|Ml 66 (fw (List.map aJ k) false<|aX Ur k)<|Mp (iI k<|by(omega))<|Kf 0<|cj<|rr0<|List.map aJ<|iP k) (fun e _ _ _ f i _ j _ k _ l n=>have:=hll _ hz20;Kt 0 k<|Mx l<|Kl 11 33 (iz e)<|Mg 0<|M0 (.ren [1,0] [] [0,1,2,7,20,21,22])<|M1 (.frz 1 [0,1,2,7,20,21,22]) (et (aU true) True.intro)<|Mf<|j 0 2 [f.from_,f.to]<|by exact⟨rfl,by simp,by rw[n];rfl⟩) (fun _ _ e f i _ _ _ j k=>Kh 0 j<|Ke 0 (IJ i e f (by(omega)) (by(omega))<|by(have z:=congrArg List.length k.2.2;rw[kZ,dN]at z;have z9:=hll _ hz20;omega))<|Mj (List Int) [0,1,2,7] (M8 F A B c) (M9 F A B c) (fun j=>Ke 0 (AD (du i) e f (by(rw[(kg _).length_eq];first|exact k.1|exact k.2.1|(have z:=congrArg List.length k.2.2;rw[kZ,dN]at z;have z9:=hll _ hz20;omega))) (by(rw[(kg _).length_eq];first|exact k.1|exact k.2.1|(have z:=congrArg List.length k.2.2;rw[kZ,dN]at z;have z9:=hll _ hz20;omega)))<|by(rw[(kg _).length_eq];first|exact k.1|exact k.2.1|(have z:=congrArg List.length k.2.2;rw[kZ,dN]at z;have z9:=hll _ hz20;omega)))<|M2 (.fsl 0 [0,1,2] 37<|List.map bK<|List.take (bx<|du i).length<|bx (du i)++List.replicate ((du i).length -(bx<|du i).length) 0) True.intro (cn (aU e) (Bw (f:=bK) (l:=bx (du i)++List.replicate ((du i).length -(bx<|du i).length) 0) (n:=(bx<|du i).length))<|aX WJ<|List.take (bx<|du i).length<|bx (du i)++List.replicate ((du i).length -(bx<|du i).length) 0)<|Ml 37 (fw (List.map bK<|List.take (bx<|du i).length<|bx (du i)++List.replicate ((du i).length -(bx<|du i).length) 0) false<|aX WJ<|List.take (bx<|du i).length<|bx (du i)++List.replicate ((du i).length -(bx<|du i).length) 0)<|Kf 0<|j (List.take (bx<|du i).length<|bx (du i)++List.replicate ((du i).length -(bx<|du i).length) 0) (by(unfold iZ;rw[k.2.2];simp[o7]):List.take (bx (du i)).length (bx (du i)++List.replicate ((du i).length -(bx (du i)).length) (0:Int))=iZ c)) fun e hz37=>have hz37:=hz37;have:=hz37▸hcl _ hz20;Mg 1<|Rc Nat Nat Nat (List PSpan) (1:Nat) [0,1,2,7,10,11] (fun c=>([aW<|A.map aJ,aW<|B.map aJ,bJ (bW F) [] [],aW<|e.map bK,aa,nV c],[])) (fun c f i j=>([aW<|A.map aJ,aW<|B.map aJ,bJ (bW F) [] [],aW<|e.map bK,aG 0 f 0 i none,nV c],[aZ 2 true f<|j.map aJ])) (fun c=>(1:Nat)≤c∧c≤2^30∧jO g e=jO g (e.drop<|c-1)) (fun c _ f i=>(1:Nat)≤c∧c≤2^30∧f=i.length∧i.length<c∧jO g e=i++jO g (e.drop<|c-1)) (fun c=>2^31-c) (fun c _ _ _=>2^31-c) (by exact⟨ah _,by omega,rfl⟩) (fun c hx1 f i=>have hx1:=hx1;have:=hx1.1;have:=hx1.2.1;Kl 2 40 (ln bK e)<|Ka 0 (Int.ofNat c) (Int.ofNat e.length) (fun _ _=>Kl 2 46 (EY c)<|Mx (aT bK (by(simp only[aH,b6,kq]at *;omega):c-1<(e).length))<|Kp 4 (hasA<|gD e<|c-1)<|Kp 1 (hasB<|gD e<|c-1)<|Mp (hF (ic A<|gD e<|c-1)<|ic B<|gD e<|c-1)<|Mb (op (ic A<|gD e<|c-1)<|ic B<|gD e<|c-1) (fun _=>Kx 3 (aT bK (by(simp only[aH,b6,kq]at *;omega):c<(e).length))<|Kl 6 43 (iz c)<|Kf 0<|i (c+1) 0 1 [PSpan.mk (gD e<|c-1)<|gD e c] (by exact⟨by(omega),by(simp only[aH]at *;omega),rfl,by(simp only[cF,gc];omega),CP hx1.2.2 hx1.1 (by(simp only[aH]at *;omega)) (hgv _ _ (by assumption)) rfl⟩)<|by(omega)) fun _=>Kl 1 43 (iz c)<|Kf 0<|f (c+1) (by exact⟨by(omega),by(simp only[aH]at *;omega),CR hx1.2.2 hx1.1 (by(simp only[aH]at *;omega)) (hgv _ _ (by assumption)) rfl⟩)<|by(omega)) fun _ _=>Kp 0 wQ<|Kf 0<|cj<|rr0<|List.map aJ<|iP []) fun c f i j hx1 _ l=>have hx1:=hx1;have:=hx1.1;have:=hx1.2.1;Kl 2 40 (ln bK e)<|Ka 0 (Int.ofNat c) (Int.ofNat e.length) (fun _ _=>Kl 2 46 (EY c)<|Mx (aT bK (by(simp only[aH,b6,kq]at *;omega):c-1<(e).length))<|Kp 4 (hasA<|gD e<|c-1)<|Kp 1 (hasB<|gD e<|c-1)<|Mp (hF (ic A<|gD e<|c-1)<|ic B<|gD e<|c-1)<|Mb (op (ic A<|gD e<|c-1)<|ic B<|gD e<|c-1) (fun _=>Kx 3 (aT bK (by(simp only[aH,b6,kq]at *;omega):c<(e).length))<|K1 2 .app (cn (aU f) (by(rw[b6];first|exact k.1|exact hx1.2.2.1):i=(List.map aJ j).length) (by(refine ef (m:=2^31) ?_ ?_ ?_<;>first|omega|(simp only[b6,cF,dN,gc];omega)|(have z:=congrArg List.length k.2.2;rw[kZ,dN]at z;have z9:=hll _ hz20;have z2:=k.1;first|omega|(simp only[cF,gc];omega))|(have z:=hx1.2.2.2.1;have z2:=hx1.2.2.1;have z3:=hx1.2.1;first|omega|(simp only[cF,gc];omega))):small (i+1) 16=true))<|M1 (.obj 0<|aZ 2 true (f+1)<|List.map aJ<|j++[PSpan.mk (gD e<|c-1)<|gD e c]) (congrArg (aZ 2 true<|f+1)<|dz (f:=aJ) (l:=j) (ws:=[PSpan.mk (gD e<|c-1)<|gD e c]))<|Kl 2 43 (iz c)<|Kf 0<|l (c+1) (f+1) (i+1) (j++[PSpan.mk (gD e<|c-1)<|gD e c]) (by exact⟨by(omega),by(simp only[aH]at *;omega),by rw[dN,←hx1.2.2.1];rfl,by(have z:=hx1.2.2.2.1;simp only[dN,cF,gc];omega),by rw[hx1.2.2.2.2,CP rfl hx1.1 (by(simp only[aH]at *;omega)) (hgv _ _ (by assumption)) rfl];simp⟩)<|by(omega)) fun _=>Kl 1 43 (iz c)<|Kf 0<|l (c+1) f i j (by exact⟨by(omega),by(simp only[aH]at *;omega),hx1.2.2.1,by(have z:=hx1.2.2.2.1;omega),by rw[hx1.2.2.2.2,CR rfl hx1.1 (by(simp only[aH]at *;omega)) (hgv _ _ (by assumption)) rfl]⟩)<|by(omega)) fun _ _=>Mg 0<|M2 (.fsl 0 [] 66<|List.map aJ j) True.intro (cn (aU f) (tA aJ j i (by(omega):(j).length=i))<|aX Ur j)<|Ml 66 (fw (List.map aJ j) false<|aX Ur j)<|Mp (iI j<|by(omega))<|Kf 0<|cj<|rr0<|List.map aJ<|iP j) fun e _ f i j _ _ k l _ n _ o _ p q=>have:=hll _ hz20;Kt 0 o<|Mx p<|K1 8 .app (cn (aU f) (by(rw[b6];first|exact q.1|exact hx1.2.2.1):i=(List.map bK j).length) (by(refine ef (m:=2^31) ?_ ?_ ?_<;>first|omega|(simp only[b6,cF,dN,gc];omega)|(have z:=congrArg List.length q.2.2;rw[kZ,dN]at z;have z9:=hll _ hz20;have z2:=q.1;first|omega|(simp only[cF,gc];omega))|(have z:=hx1.2.2.2.1;have z2:=hx1.2.2.1;have z3:=hx1.2.1;first|omega|(simp only[cF,gc];omega))):small (i+2) 8=true))<|M1 (.obj 0<|aZ 1 true (f+1)<|List.map bK<|j++[k.from_,k.to]) (congrArg (aZ 1 true<|f+1)<|dz (f:=bK) (l:=j) (ws:=[k.from_,k.to]))<|Kl 1 33 (iz e)<|K1 0 (.frz 1 [0,1,2,7,20,21,22]) (et (tR 1 true (f+1) 1<|aX WJ<|j++[k.from_,k.to]) True.intro)<|Mf<|n (f+1) (i+2) (j++[k.from_,k.to])<|by exact⟨by rw[dN,←q.1];rfl,by simp,by rw[q.2.2,Ck];simp⟩
theorem VJ(x y:Bool):kP 276 [.bool x,.bool y] (.bool (x||y)):=by
  have rr0 b' (h:(x||y)=b':=by simp only[aS,ax,bS, *]):=h;exact bu Tryz.func276<|Kb 2 x (fun a=>MV a<|Ky 0<|rr0 true) fun a=>Kw 0 a<|Ky 0<|rr0 y
theorem UQ(x y:Bool):kP 277 [.bool x,.bool y] (.bool (x&&y)):=by
  have rr0 b' (h:(x&&y)=b':=by simp only[aS,ax,bS, *]):=h;exact bu Tryz.func277<|Kb 2 x (fun a=>Ku 0 a<|Ky 0<|rr0 y) fun a=>My a<|Ky 0<|rr0 false
theorem NL(a b:List PSpan)(ha:a.length<2^30)(hb:b.length<2^30):kP 219 [.ls (a.map aJ),.ls (b.map aJ)] (.ls ((rn (· || ·) a b).map aJ)):=by
  have h:=KG 276 (· || ·) VJ rfl a b ha hb
  exact bu Tryz.func219<|Kp 2 h<|Kf 0<|ba<|aW<|(rn (fun c d=>c||d) a b).map aJ
theorem Pe(a b:List PSpan)(ha:a.length<2^30)(hb:b.length<2^30):kP 221 [.ls (a.map aJ),.ls (b.map aJ)] (.ls ((rn (· && ·) a b).map aJ)):=by
  have h:=KG 277 (· && ·) UQ rfl a b ha hb
  exact bu Tryz.func221<|Kp 2 h<|Kf 0<|ba<|aW<|(rn (fun c d=>c&&d) a b).map aJ
noncomputable def od(a:List PSpan)(d:Int):List PSpan:=rn (· && ·) a [⟨0,d⟩]
noncomputable def pd(a:List PSpan)(d:Int):List PSpan:=rn (· || ·) (od a d) [⟨d,1048577⟩]
theorem rC(a:List PSpan)(d:Int):NrmS (od a d):=yH _
theorem tD(a:List PSpan)(d:Int):NrmS (pd a d):=yH _
theorem Eo(a:List PSpan)(d:Int)(ha:a.length<2^30):kP 153 [.ls (a.map aJ),iV d] (.ls ((od a d).map aJ)):=by
  have h:kP 221 [.ls (a.map aJ),.ps [aJ ⟨0,d⟩] true] (.ls ((od a d).map aJ)):=(Pe a [⟨0,d⟩] ha (by simp)).onArgs (.cons (Le.refl _) (.cons (Le.ps _ _ rfl) .nil))
  exact bu Tryz.func153<|Kp 4 h<|Kf 0<|ba<|aW<|(od a d).map aJ
theorem QU(a:List PSpan)(d:Int)(ha:a.length<2^30):kP 151 [.ls (a.map aJ),iV d] (.ls ((pd a d).map aJ)):=by
  have h0:=Eo a d ha
  have hl:=(rC a d).len
  have h:kP 219 [.ls ((od a d).map aJ),.ps [aJ ⟨d,1048577⟩] true] (.ls ((pd a d).map aJ)):=(NL (od a d) [⟨d,1048577⟩] (by omega) (by simp)).onArgs (.cons (Le.refl _) (.cons (Le.ps _ _ rfl) .nil))
  exact bu Tryz.func151<|Kp 2 h0<|Kp 2 h<|Kf 0<|ba<|aW<|(pd a d).map aJ
noncomputable def rh(k:Int):Bool:=ab k 7||ab k 9
noncomputable def ko(k:Int):Bool:=rh k||ab k 8
noncomputable def rk(k:Int):AV:=match rh k with|true=>.func (.func 151) [] []|false=>match ab k 8 with|true=>.func (.func 153) [] []|false=>.nilf
theorem y9(k:Int):ed (some .nilf) true (bq false 1 [(0,1)] (iV k) [⟨iV 7,.func (.func 151) [] [],0⟩,⟨iV 9,.func (.func 151) [] [],1⟩,⟨iV 8,.func (.func 153) [] [],2⟩] 0)=some (.tuple [rk k,.bool (ko k)]):=by
  unfold rk ko rh
  simp only[bq,qY,Ig,kx]
  cases h1:ab k 7<;>cases h2:ab k 9<;>cases h3:ab k 8<;>rfl
theorem NR{k:Int}(h:rh k=true):Le (.func (.func 151) [] []) (rk k):=by unfold rk;rw[h];exact Le.refl _
theorem RC{k:Int}(h:rh k=false)(h2:ko k=true):Le (.func (.func 153) [] []) (rk k):=by
  unfold ko at h2;rw[h,Bool.false_or]at h2
  unfold rk;rw[h,h2];exact Le.refl _
noncomputable def NS:List AEnt:=[⟨iV 7,.func (.func 151) [] [],0⟩,⟨iV 9,.func (.func 151) [] [],1⟩,⟨iV 8,.func (.func 153) [] [],2⟩]
theorem RA(x:PItem):kD 121 [] (ay [.row 25 false 0 [eI x]]) (.map 1) (ay [.row 25 false 0 [eI x],.map NS 3]):=by
  exact fq Tryz.func121 fun a=>Kf 6 a
theorem RB(s:PStart)(d o:PDeed):kD 121 [] (ay [.row 3 false 0 [ao s],.row 28 false 0 [aY d],.row 28 false 0 [aY o]]) (.map 3) (ay [.row 3 false 0 [ao s],.row 28 false 0 [aY d],.row 28 false 0 [aY o],.map NS 3]):=by
  exact fq Tryz.func121 fun a=>Kf 6 a
noncomputable def qA(x:PItem)(a i:Int):Bool:=ab x.act a&&(match ab x.kind 11 with|true=>ab x.item i|false=>ko x.kind&&(ab x.item i||ab x.item (-1)))
theorem Lc(x:PItem)(a i:Int):kP 122 [eI x,iV a,iV i] (.bool (qA x a i)):=by
  have hlk:=y9
  have rr0 b' (h:(qA x a i)=b':=by unfold qA;generalize ab x.act a=p1 at *;generalize ab x.kind 11=p2 at *;generalize ab x.item i=p3 at *;generalize ab x.item (-1)=p4 at *;generalize ko x.kind=p5 at *;simp only[aS,ax,bS, *]):=h;let q:=[aw [iV x.kind,aW (x.at_.map az),aW (x.to.map az),iV x.where_,iV x.nth_,iV x.unit.act,iV x.unit.item,iV x.unit.n,iV x.unit.kind,aj x.unit.label,aW (x.unit.head.map aQ),aW (x.unit.words.map aQ),aW (x.unit.kids.map aV),aW (x.old.map mE),aW (x.new.map mE),aj x.label,aj x.for_,iV x.start.kind,iV x.start.day,aj x.start.event,iV x.act,iV x.item,iV x.day,aj x.event,aW (x.by_.map MF)]];let q1:=bJ (bW 151) [] [];exact bu Tryz.func122<|Kc 5 x.act a (fun _ _=>Ky 0<|rr0 false) fun _ _=>Kj 2 x.kind 11 (fun _ _=>Kf 4<|cZ<|rr0<|ab x.item i) fun _ _=>M3 (.efx true (AV.map 1)<|ay [aZ 25 false 0 q,AObj.map [AEnt.mk (iV 7) q1 0,AEnt.mk (iV 9) q1 1,AEnt.mk (iV 8) (bJ (bW 153) [] []) 2] 3]) (et rt ti) (et (aU<|some<|aZ 25 false 0 q) ti) (RA x)<|K1 1 (.look<|cV [rk x.kind,eP<|ko x.kind]) (hlk x.kind)<|Kb 6 (ko x.kind) (fun b=>Kt 0 b<|Kt 0 b<|Kt 0 b<|Kt 0 b<|Kj 0 x.item i (fun c _=>Mt c<|Mt c<|Mt b<|MV c<|MV b<|Ky 0<|rr0 true) fun c _=>Kh 0 c<|Kh 0 c<|Kt 0 b<|My c<|MV b<|Kf 0<|cZ<|rr0<|ab x.item (-1)) fun b=>Mh b<|Mh b<|Mh b<|Mh b<|Mh b<|My b<|Ky 0<|rr0 false
noncomputable abbrev gi(nm:aP):AObj:=.row 1 false 0 [.str nm]
noncomputable def rm(nm:aP)(d:PDeed):Bool:=ab d.it.kind 10&&dR d.it.event nm
theorem Qz(nm:aP)(d:PDeed):kD 220 [aY d,.ptr 0 0 0 0] (ay [gi nm]) (.bool (rm nm d)) (ay [gi nm]):=by
  let q:=ay [aZ 1 false 0 [aj nm]];exact K7 Tryz.func220<|Kj 6 d.it.kind 10 (fun a _=>Kt 0 a<|Kt 0 a<|Kt 0 a<|Kt 0 a<|Ku 0 a<|K1 0 (.frz 1 [3]) (et rt ti)<|Mf<|et (by unfold rm;generalize ab d.it.kind 10=p1 at *;generalize dR d.it.event nm=p2 at *;simp only[aS,ax,bS, *]:(AV.bool (dR d.it.event nm))=(AV.bool (rm nm d)))<|aU q) fun a _=>Mh a<|Mh a<|Mh a<|Mh a<|My a<|K1 0 (.frz 1 [3]) (et rt ti)<|Mf<|et (by unfold rm;generalize ab d.it.kind 10=p1 at *;generalize dR d.it.event nm=p2 at *;simp only[aS,ax,bS, *]:(AV.bool false)=(AV.bool (rm nm d)))<|aU q
noncomputable def jQ(nm:aP):List PDeed→Nat→Int
  |[],_=> -1
  |d::r,i=>match rm nm d with|true=>Int.ofNat i|false=>jQ nm r (i+1)
theorem J7(nm:aP):∀(l:List PDeed)(i:Nat),jQ nm l i<Int.ofNat (i+l.length)∧(0≤jQ nm l i∨jQ nm l i= -1)
  |[],i=>⟨by simp only[jQ,oN];omega,.inr rfl⟩
  | d::r,i=>by
    have:=J7 nm r (i+1)
    cases h:rm nm d<;>simp only[jQ,h,oN,lC]at * <;>omega
theorem XB{nm:aP}{d:PDeed}{r:List PDeed}{i:Nat}(h:rm nm d=true):jQ nm (d::r) i=Int.ofNat i:=by simp only[jQ,h]
theorem XC{nm:aP}{d:PDeed}{r:List PDeed}{i:Nat}(h:rm nm d=false):jQ nm (d::r) i=jQ nm r (i+1):=by simp only[jQ,h]
theorem BS(nm:aP)(l:List PDeed)(hl:l.length<2^40):kD 111 [.ls (l.map aY),.func (.func 220) [] [.ptr 0 0 0 0]] (ay [gi nm]) (iV (jQ nm l 0)) (ay [gi nm]):=by
  let q:=ay [aZ 1 false 0 [aj nm]];exact K7 Tryz.func111<|Kl 2 7 (ln aY l)<|Mg 0<|uy aY l [0,1,7,8] (fun a _=>([aW<|l.map aY,bJ (bW 220) [] [bY 0 0 0 0],nV l.length,nV a],[aZ 1 false 0 [aj nm]])) (fun a=>jQ nm l (0:Nat)=jQ nm a (l.length-a.length)) (by(rw[Nat.sub_self])) (fun _ _ _ _ _ a b=>Kh 0 a<|Kf 0<|et (by(rw[b];rfl):(iV (-1))=(iV (jQ nm l 0)))<|aU q) fun a _ b _ c d e f g _ h i=>have:=iW b f;Kt 0 g<|Kx 4 h<|Ke 0 (Qz nm c)<|Mb (rm nm c) (fun _=>Kf 1<|et (by(rw[i,XB (by assumption)];congr 2;have z:=Hr (b.trans f) (by simp) (by simp only[lC];omega:(l.length-(d.length+1))+(c::d).length=l.length);exact z):(nV a)=(iV (jQ nm l 0)))<|aU q) fun _=>Kl 0 18 (de a)<|Kf 0<|e<|by(rw[i,XC (by assumption)];congr 1;have:=iW b f;simp only[lC];omega)
theorem Qq(d:Int):kP 151 [.nils,iV d] (.ls ((pd [] d).map aJ)):=(QU [] d (by simp)).onArgs (.cons Le.nils (.cons (Le.refl _) .nil))
theorem Ic(nm:aP)(l:List PDeed)(hl:l.length<2^40)(h:ap (jQ nm l 0) 0=true):kP 152 [.str nm,.ls (l.map aY)] (.tuple [iV 0,.bool false]):=by
  exact bu Tryz.func152<|Ke 4 (BS nm l hl)<|Kt 2 h<|Kf 1<|ba<|cV [iV 0,eP false]
theorem Ie(nm:aP)(l:List PDeed)(hl:l.length<2^40)(h:ap (jQ nm l 0) 0=false):kP 152 [.str nm,.ls (l.map aY)] (.tuple [iV (gD l (jQ nm l 0).toNat).it.day,.bool true]):=by
  have g1:=aM h
  have g2:=(J7 nm l 0).1
  exact bu Tryz.func152<|Ke 4 (BS nm l hl)<|Kh 2 h<|Kl 1 13 (Aa (x:=jQ nm l 0) oA)<|Mx (aT aY (by(simp only[oN,lM,lS]at *;omega):(jQ nm l 0).toNat<(l).length))<|Kf 4<|ba<|cV [iV (gD l (jQ nm l 0).toNat).it.day,eP true]
noncomputable def kS(s:PStart)(l:List PDeed):List PSpan:=match ab s.kind 1 with|true=>pd [] s.day|false=>match ab s.kind 3 with|true=>(match ap (jQ s.event l 0) 0 with|true=>[]|false=>pd [] (gD l (jQ s.event l 0).toNat).it.day)|false=>[]
theorem L4(s:PStart)(l:List PDeed)(hl:l.length<2^40)(hi:ap (jQ s.event l 0) 0=true):kP 119 [ao s,.ls (l.map aY)] (.ls ((kS s l).map aJ)):=by
  have he:=Ic s.event l hl hi
  have e:kS s l=match ab s.kind 1 with|true=>pd [] s.day|false=>[]:=(by unfold kS;rw[hi];cases ab s.kind 1<;>cases ab s.kind 3<;>rfl)
  rw[e]
  have rr0 b' (h:((match ab s.kind 1 with|true=>pd [] s.day|false=>[]).map aJ)=b':=by generalize ab s.kind 1=p1 at *;(rw[h0]);try rfl):=h;exact bu Tryz.func119<|Kj 5 s.kind 1 (fun h0 _=>Kp 1 (Qq s.day)<|Kf 0<|cj<|rr0<|(pd [] s.day).map aJ) fun h0 _=>Kj 1 s.kind 3 (fun _ _=>Kp 2 he<|Kf 7 (Le.lsn<|rr0 []:Le _ (aa))) fun _ _=>Kf 0 (Le.lsn<|rr0 []:Le _ (aa))
theorem L5(s:PStart)(l:List PDeed)(hl:l.length<2^40)(hi:ap (jQ s.event l 0) 0=false):kP 119 [ao s,.ls (l.map aY)] (.ls ((kS s l).map aJ)):=by
  have he:=Ie s.event l hl hi
  have e:kS s l=match ab s.kind 1 with|true=>pd [] s.day|false=>match ab s.kind 3 with|true=>pd [] (gD l (jQ s.event l 0).toNat).it.day |false=>[]:=(by unfold kS;rw[hi])
  rw[e]
  have rr0 b' (h:((match ab s.kind 1 with|true=>pd [] s.day|false=>match ab s.kind 3 with|true=>pd [] (gD l (jQ s.event l 0).toNat).it.day |false=>[]).map aJ)=b':=by generalize ab s.kind 1=p1 at *;generalize ab s.kind 3=p3 at *;(rw[h0]);(first|rw[h1]|skip);try rfl):=h;exact bu Tryz.func119<|Kj 5 s.kind 1 (fun h0 _=>Kp 1 (Qq s.day)<|Kf 0<|cj<|rr0<|(pd [] s.day).map aJ) fun h0 _=>Kj 1 s.kind 3 (fun h1 _=>Kp 2 he<|Kp 7 (Qq (gD l (jQ s.event l 0).toNat).it.day)<|Kf 0<|cj<|rr0<|(pd [] (gD l (jQ s.event l 0).toNat).it.day).map aJ) fun h1 _=>Kf 0 (Le.lsn<|rr0 []:Le _ (aa))
theorem IV(s:PStart)(l:List PDeed)(hl:l.length<2^40):kP 119 [ao s,.ls (l.map aY)] (.ls ((kS s l).map aJ)):=by
  cases hi:ap (jQ s.event l 0) 0
  · exact L5 s l hl hi
  · exact L4 s l hl hi
noncomputable def rG(d o:PDeed)(days:List PSpan):List PSpan:=match ko o.it.kind&&qA o.it d.act d.item with|true=>(match rh o.it.kind with|true=>pd days o.it.day|false=>od days o.it.day)|false=>days
noncomputable def ly(d:PDeed):List PDeed→List PSpan→List PSpan
  |[],days=>days
  |o::r,days=>ly d r (rG d o days)
noncomputable def dg(s:PStart)(d:PDeed)(l:List PDeed):List PSpan:=match ap d.it.kind 0||ap 6 d.it.kind with|true=>[]|false=>ly d l (kS (effS s d.it.start) l)
theorem L6(s:PStart)(l:List PDeed):(kS s l).length≤1048577:=by
  have h:=fun d=>(tD [] d).len
  unfold kS
  cases ab s.kind 1<;>cases ab s.kind 3<;>cases ap (jQ s.event l 0) 0<;>simp only[lN]<;>first|exact h _|omega
theorem mo(s:PStart)(d:PDeed)(l:List PDeed)(hl:l.length<2^40):kP 86 [ao s,aY d,.ls (l.map aY)] (.ls ((dg s d l).map aJ)):=by
  have hlk:=y9
  have hle1:∀k,rh k=true→Le (.func (.func 151) [] []) (rk k):=fun k h=>NR h
  have hle2:∀k,rh k=false→ko k=true→Le (.func (.func 153) [] []) (rk k):=fun k h h2=>RC h h2
  have hil:=L6 (effS s d.it.start) l
  have hin:∀b,(ap d.it.kind 0||ap 6 d.it.kind)=b→dg s d l=match b with|true=>[]|false=>ly d l (kS (effS s d.it.start) l):=fun b h=>by unfold dg;rw[h]
  have hst:∀(o:PDeed)(r:List PDeed)(days:List PSpan),ly d (o::r) days=ly d r (rG d o days):=fun o r days=>rfl
  have rr0 b' (h:((dg s d l).map aJ)=b':=by first|(rw[hin true (by simp only[aS,ax,bS, *];try rfl)];rfl)|(rw[hin false (by simp only[aS,ax,bS, *];try rfl)];first|exact congrArg _ hj0.2|exact congrArg _ hj0.2.symm|(rw[hj0.2];rfl))):=h;let q1:=[aw [iV d.act,iV d.item,iV d.day,iV d.it.kind,aW (d.it.at_.map az),aW (d.it.to.map az),iV d.it.where_,iV d.it.nth_,iV d.it.unit.act,iV d.it.unit.item,iV d.it.unit.n,iV d.it.unit.kind,aj d.it.unit.label,aW (d.it.unit.head.map aQ),aW (d.it.unit.words.map aQ),aW (d.it.unit.kids.map aV),aW (d.it.old.map mE),aW (d.it.new.map mE),aj d.it.label,aj d.it.for_,iV d.it.start.kind,iV d.it.start.day,aj d.it.start.event,iV d.it.act,iV d.it.item,iV d.it.day,aj d.it.event,aW (d.it.by_.map MF)]];let q2:=[aw [iV s.kind,iV s.day,aj s.event]];let q3:=bJ (bW 151) [] [];exact bu Tryz.func86<|Ka 7 d.it.kind 0 (fun a _=>Mt a<|Mt a<|Mt a<|MV a<|Kf 1 (Le.lsn<|rr0 []:Le _ (aa))) fun a _=>Kh 0 a<|Kh 0 a<|Kh 0 a<|Kw 0 a<|Mb (ap 6 d.it.kind) (fun a=>have:=ar a;Kf 0 (Le.lsn<|rr0 []:Le _ (aa))) fun a=>have:=aM a;Kp 3 (Gn s d.it.start)<|Kp 0 (IV (effS s d.it.start) l hl)<|Kl 2 30 (ln aY l)<|Mg 0<|Uj (0:Nat) l (kS (effS s d.it.start) l) [4,7,29,30,31] (fun a _ c=>([bY 1 0 0 0,aW<|c.map aJ,aW<|l.map aY,nV l.length,nV a],[aZ 3 false 0 [aw [iV s.kind,iV s.day,aj s.event]],aZ 28 false 0 [aw [iV d.act,iV d.item,iV d.day,iV d.it.kind,aW<|d.it.at_.map az,aW<|d.it.to.map az,iV d.it.where_,iV d.it.nth_,iV d.it.unit.act,iV d.it.unit.item,iV d.it.unit.n,iV d.it.unit.kind,aj d.it.unit.label,aW<|d.it.unit.head.map aQ,aW<|d.it.unit.words.map aQ,aW<|d.it.unit.kids.map aV,aW<|d.it.old.map mE,aW<|d.it.new.map mE,aj d.it.label,aj d.it.for_,iV d.it.start.kind,iV d.it.start.day,aj d.it.start.event,iV d.it.act,iV d.it.item,iV d.it.day,aj d.it.event,aW<|d.it.by_.map MF]]])) (fun a c e=>(l).drop a=c∧e.length≤1048577∧ly d l (kS (effS s d.it.start) l)=ly d c e) (fun _ a _=>a.length) (et rfl<|by(exact⟨hil,rfl⟩)) fun a c e f g=>Mc c (fun a=>have c:=gn f.1 a;have hj0:=jv (J:=fun a c=>c.length≤1048577∧ly d l (kS (effS s d.it.start) l)=ly d a c) (a:=e) a f.2;Kh 0 c<|Kf 1<|cj<|rr0<|e.map aJ) fun c i j=>let m:=[aw [iV c.act,iV c.item,iV c.day,iV c.it.kind,aW<|c.it.at_.map az,aW<|c.it.to.map az,iV c.it.where_,iV c.it.nth_,iV c.it.unit.act,iV c.it.unit.item,iV c.it.unit.n,iV c.it.unit.kind,aj c.it.unit.label,aW<|c.it.unit.head.map aQ,aW<|c.it.unit.words.map aQ,aW<|c.it.unit.kids.map aV,aW<|c.it.old.map mE,aW<|c.it.new.map mE,aj c.it.label,aj c.it.for_,iV c.it.start.kind,iV c.it.start.day,aj c.it.start.event,iV c.it.act,iV c.it.item,iV c.it.day,aj c.it.event,aW<|c.it.by_.map MF]];have n:=gp f.1 j;have:=ar n;have p:=gm (enc:=aY) f.1 j;have hj0:=cH (J:=fun a c=>c.length≤1048577∧ly d l (kS (effS s d.it.start) l)=ly d a c) (a:=e) j f.2;Kt 0 n<|Mx p<|Mg 2<|M3 (.efx true (AV.map 3)<|ay [aZ 3 false 0 q2,aZ 28 false 0 q1,aZ 28 false 0 m,AObj.map [AEnt.mk (iV 7) q3 0,AEnt.mk (iV 9) q3 1,AEnt.mk (iV 8) (bJ (bW 153) [] []) 2] 3]) (jF rt rt rt ti) (jF (aU<|some<|aZ 28 false 0 m) (aU<|some<|aZ 28 false 0 q1) (aU<|some<|aZ 3 false 0 q2) ti) (RB s d c)<|K1 2 (.look<|cV [rk c.it.kind,eP<|ko c.it.kind]) (hlk c.it.kind)<|Kb 6 (ko c.it.kind) (fun m=>Kt 0 m<|Kt 0 m<|Kt 0 m<|Kt 0 m<|Kt 0 m<|Kt 0 m<|Mp (Lc c.it d.act d.item)<|MV m<|Mb (qA c.it d.act d.item) (fun _=>Ks 4 (rh c.it.kind) (fun m=>Ml 53 (hle1 c.it.kind m)<|Mp (QU e c.it.day oA)<|Kl 1 59 (de a)<|K1 0 (.frz 2 [4,7,29,30,31]) (cn rt rt ti)<|Mf<|g (a+1) i (pd e c.it.day) (et (b7 f.1 j)<|by exact⟨(tD _ _).len,by rw[hj0.2,hst];simp only[rG, *];rfl⟩)<|fF j) fun n=>Ml 53 (hle2 c.it.kind n m)<|Mp (Eo e c.it.day oA)<|Kl 1 59 (de a)<|K1 0 (.frz 2 [4,7,29,30,31]) (cn rt rt ti)<|Mf<|g (a+1) i (od e c.it.day) (et (b7 f.1 j)<|by exact⟨(rC _ _).len,by rw[hj0.2,hst];simp only[rG, *];rfl⟩)<|fF j) fun _=>Kl 0 59 (de a)<|K1 0 (.frz 2 [4,7,29,30,31]) (cn rt rt ti)<|Mf<|g (a+1) i e (et (b7 f.1 j)<|by exact⟨hj0.1,by rw[hj0.2,hst];simp only[rG,aS,ax,bS, *];try rfl⟩)<|fF j) fun c=>Mh c<|Mh c<|Mh c<|Mh c<|Mh c<|Mh c<|My c<|Kl 1 59 (de a)<|K1 0 (.frz 2 [4,7,29,30,31]) (cn rt rt ti)<|Mf<|g (a+1) i e (et (b7 f.1 j)<|by exact⟨hj0.1,by rw[hj0.2,hst];simp only[rG,aS,ax,bS, *];try rfl⟩)<|fF j
noncomputable abbrev ip(d:Int):AObj:=.row 1 false 0 [iV d]
noncomputable abbrev qX:AObj:=.row 1 false 0 [.nils]
noncomputable abbrev pe(i ep n:Nat):AObj:=.row 1 false 0 [.slice i ep 0 n none]
noncomputable abbrev dW(m:List (Int×PStart)):AObj:=.map (bM ao m 0) m.length
noncomputable abbrev gg(d:PDeed):AObj:=.row 28 false 0 [aY d]
noncomputable abbrev pc(ep:Nat)(l:List PDeed):AObj:=.row 28 true ep (l.map aY)
def dt:PStart:=⟨0,0,[]⟩
def cT(m:List (Int×PStart))(k:Int):PStart:=(gy k m).getD dt
theorem zQ(m:List (Int×PStart))(k:Int):ed (some (.agg [iV 0,iV 0,.str []])) false (bq false 1 [(0,1)] (iV k) (bM ao m 0) 0)=some (ao (cT m k)):=by
  rw[zX]
  cases h:gy k m<;>simp only[cT,h,Option.getD]<;>rfl
theorem BV(m:List (Int×PStart))(a:PAct):pE (bM ao m 0) m.length (iV a.number) (.agg [iV a.start.kind,iV a.start.day,.str a.start.event]) (bq false 1 [(0,1)] (iV a.number) (bM ao m 0) 0)=some (bM ao (kh a.number a.start m) 0,(kh a.number a.start m).length):=BU (f:=ao) a.number a.start m
/-- The starts of the acts by their numbers. -/
def xz(l:List PAct)(m:List (Int×PStart)):List (Int×PStart):=l.foldl (fun m a=>kh a.number a.start m) m
theorem FN(s:PStart)(d:PDeed)(l:List PDeed):NrmS (dg s d l):=by
  have h1:∀(s:PStart),NrmS (kS s l):=fun s=>by
    unfold kS
    cases ab s.kind 1<;>cases ab s.kind 3<;>cases ap (jQ s.event l 0) 0<;>first|exact xd|exact tD _ _
  have h2:∀(r:List PDeed)(days:List PSpan),NrmS days→NrmS (ly d r days):=by
    intro r
    induction r with
    |nil=>intro days h;exact h
    | cons o r ih=>
      intro days h
      refine ih _ ?_
      unfold rG
      cases ko o.it.kind&&qA o.it d.act d.item<;>cases rh o.it.kind<;>first|exact h|exact tD _ _|exact rC _ _
  unfold dg
  cases ap d.it.kind 0||ap 6 d.it.kind
  · exact h2 l _ (h1 _)
  · exact xd
theorem sk(s:PStart)(d:PDeed)(l:List PDeed)(day:Int):kP 48 [.ls ((dg s d l).map aJ),iV day] (.bool (ic (dg s d l) day)):=by
  have hn:=FN s d l
  have h:=GE (dg s d l) day (pY hn.len (by decide))
  rwa[show iP (dg s d l)=dg s d l from(Sd hn).symm]at h
/-- Whether an amendment is told: its purpose, its days. -/
noncomputable def V0(p:aP)(d:PDeed):Bool:=dR d.it.for_ []||dR d.it.for_ p
noncomputable def Bp(day:Int)(p:aP)(m:List (Int×PStart))(ds:List PDeed)(d:PDeed):Bool:=V0 p d&&ic (dg (cT m d.act) d ds) day
noncomputable def rf(day:Int)(p:aP)(m:List (Int×PStart))(ds l:List PDeed):List PDeed:=l.filter fun d=>fh d.it.kind&&Bp day p m ds d
theorem YB(d:PDeed)(ss:List PSpan)(day:Int)(p:aP)(m:List (Int×PStart))(hc:kP 48 [.ls (ss.map aJ),iV day] (.bool false)):kD 47 [aY d,.ls (ss.map aJ),.ptr 1 0 0 0,.ptr 0 0 0 0,.ptr 2 0 0 0] (ay [ip day,gi p,qX,dW m,gg d]) (.tuple []) (ay [ip day,gi p,qX,dW m,gg d]):=by
  exact fq Tryz.func47 fun a=>Kb 5 (dR d.it.for_ (ByteArray.mk #[]).data.toList) (fun b=>Mt b<|Mt b<|Mt b<|Mt b<|MV b<|Kp 2 hc<|K1 1 (.frz 5 []) (xo rt (tM m.length 5<|aD (f:=ao) (fun _=>rfl) m 0) rt rt rt ti)<|Mf a) fun b=>Kh 0 b<|Kh 0 b<|Kh 0 b<|Kh 0 b<|Kw 0 b<|Kb 0 (dR d.it.for_ p) (fun b=>Kt 0 b<|Kt 0 b<|Mp hc<|MV b<|K1 0 (.frz 5 []) (xo rt (tM m.length 5<|aD (f:=ao) (fun _=>rfl) m 0) rt rt rt ti)<|Mf a) fun b=>Mh b<|Mh b<|My b<|K1 0 (.frz 5 []) (xo rt (tM m.length 5<|aD (f:=ao) (fun _=>rfl) m 0) rt rt rt ti)<|Mf a
theorem YA(d:PDeed)(ss:List PSpan)(day:Int)(p:aP)(m:List (Int×PStart))(h1:dR d.it.for_ []=false)(h2:dR d.it.for_ p=false):kD 47 [aY d,.ls (ss.map aJ),.ptr 1 0 0 0,.ptr 0 0 0 0,.ptr 2 0 0 0] (ay [ip day,gi p,qX,dW m,gg d]) (.tuple []) (ay [ip day,gi p,qX,dW m,gg d]):=by
  exact fq Tryz.func47 fun a=>Kh 5 h1<|Kh 0 h1<|Kh 0 h1<|Kh 0 h1<|Kh 0 h1<|Kw 0 h1<|Kh 0 h2<|Mh h2<|Mh h2<|My h2<|K1 0 (.frz 5 []) (xo rt (tM m.length 5<|aD (f:=ao) (fun _=>rfl) m 0) rt rt rt ti)<|Mf a
theorem Yu(d:PDeed)(ss:List PSpan)(day:Int)(p:aP)(m:List (Int×PStart))(hc:kP 48 [.ls (ss.map aJ),iV day] (.bool true))(h1:dR d.it.for_ []=true):kD 47 [aY d,.ls (ss.map aJ),.ptr 1 0 0 0,.ptr 0 0 0 0,.ptr 2 0 0 0] (ay [ip day,gi p,qX,dW m,gg d]) (.tuple []) (ay [ip day,gi p,pe 5 0 1,dW m,gg d,pc 0 [d]]):=by
  exact fq Tryz.func47 fun a=>Kt 5 h1<|Mt h1<|Mt h1<|Mt h1<|Mt h1<|MV h1<|Kp 2 hc<|K1 6 (.ren [0,1,2,3,4,6,5] [3] []) (tN m.length<|aD (f:=ao) (fun _=>rfl) m 0)<|M1 (.frz 6 []) (MA rt rt (tM m.length 6<|aD (f:=ao) (fun _=>rfl) m 0) rt rt rt ti)<|Mf a
theorem Yt(d:PDeed)(ss:List PSpan)(day:Int)(p:aP)(m:List (Int×PStart))(hc:kP 48 [.ls (ss.map aJ),iV day] (.bool true))(h1:dR d.it.for_ []=false)(h2:dR d.it.for_ p=true):kD 47 [aY d,.ls (ss.map aJ),.ptr 1 0 0 0,.ptr 0 0 0 0,.ptr 2 0 0 0] (ay [ip day,gi p,qX,dW m,gg d]) (.tuple []) (ay [ip day,gi p,pe 5 0 1,dW m,gg d,pc 0 [d]]):=by
  exact fq Tryz.func47 fun a=>Kh 5 h1<|Kh 0 h1<|Kh 0 h1<|Kh 0 h1<|Kh 0 h1<|Kw 0 h1<|Kt 0 h2<|Kt 0 h2<|Kt 0 h2<|Mp hc<|MV h2<|K1 5 (.ren [0,1,2,3,4,6,5] [3] []) (tN m.length<|aD (f:=ao) (fun _=>rfl) m 0)<|M1 (.frz 6 []) (MA rt rt (tM m.length 6<|aD (f:=ao) (fun _=>rfl) m 0) rt rt rt ti)<|Mf a
theorem Ys(d:PDeed)(ss:List PSpan)(day:Int)(p:aP)(m:List (Int×PStart))(ep n:Nat)(out:List PDeed)(hc:kP 48 [.ls (ss.map aJ),iV day] (.bool false)):kD 47 [aY d,.ls (ss.map aJ),.ptr 1 0 0 0,.ptr 0 0 0 0,.ptr 2 0 0 0] (ay [ip day,gi p,pe 4 ep n,dW m,pc ep out,gg d]) (.tuple []) (ay [ip day,gi p,pe 4 ep n,dW m,pc ep out,gg d]):=by
  exact fq Tryz.func47 fun a=>Kb 5 (dR d.it.for_ (ByteArray.mk #[]).data.toList) (fun b=>Mt b<|Mt b<|Mt b<|Mt b<|MV b<|Kp 2 hc<|K1 1 (.frz 6 []) (MA rt (tR 28 true ep 6<|aX wg out) (tM m.length 6<|aD (f:=ao) (fun _=>rfl) m 0) rt rt rt ti)<|Mf a) fun b=>Kh 0 b<|Kh 0 b<|Kh 0 b<|Kh 0 b<|Kw 0 b<|Kb 0 (dR d.it.for_ p) (fun b=>Kt 0 b<|Kt 0 b<|Mp hc<|MV b<|K1 0 (.frz 6 []) (MA rt (tR 28 true ep 6<|aX wg out) (tM m.length 6<|aD (f:=ao) (fun _=>rfl) m 0) rt rt rt ti)<|Mf a) fun b=>Mh b<|Mh b<|My b<|K1 0 (.frz 6 []) (MA rt (tR 28 true ep 6<|aX wg out) (tM m.length 6<|aD (f:=ao) (fun _=>rfl) m 0) rt rt rt ti)<|Mf a
theorem Yr(d:PDeed)(ss:List PSpan)(day:Int)(p:aP)(m:List (Int×PStart))(ep n:Nat)(out:List PDeed)(h1:dR d.it.for_ []=false)(h2:dR d.it.for_ p=false):kD 47 [aY d,.ls (ss.map aJ),.ptr 1 0 0 0,.ptr 0 0 0 0,.ptr 2 0 0 0] (ay [ip day,gi p,pe 4 ep n,dW m,pc ep out,gg d]) (.tuple []) (ay [ip day,gi p,pe 4 ep n,dW m,pc ep out,gg d]):=by
  exact fq Tryz.func47 fun a=>Kh 5 h1<|Kh 0 h1<|Kh 0 h1<|Kh 0 h1<|Kh 0 h1<|Kw 0 h1<|Kh 0 h2<|Mh h2<|Mh h2<|My h2<|K1 0 (.frz 6 []) (MA rt (tR 28 true ep 6<|aX wg out) (tM m.length 6<|aD (f:=ao) (fun _=>rfl) m 0) rt rt rt ti)<|Mf a
theorem Yp(d:PDeed)(ss:List PSpan)(day:Int)(p:aP)(m:List (Int×PStart))(ep n:Nat)(out:List PDeed)(hn:n=out.length)(hn2:n<2^20)(hc:kP 48 [.ls (ss.map aJ),iV day] (.bool true))(h1:dR d.it.for_ []=true):kD 47 [aY d,.ls (ss.map aJ),.ptr 1 0 0 0,.ptr 0 0 0 0,.ptr 2 0 0 0] (ay [ip day,gi p,pe 4 ep n,dW m,pc ep out,gg d]) (.tuple []) (ay [ip day,gi p,pe 4 (ep+1) (n+1),dW m,pc (ep+1) (out++[d]),gg d]):=by
  exact fq Tryz.func47 fun a=>Kt 5 h1<|Mt h1<|Mt h1<|Mt h1<|Mt h1<|MV h1<|Kp 2 hc<|K1 4 .app (cn (aU ep) (by(rw[lM];exact hn):n=(out.map aY).length) (by exact ef (m:=2^21) (by omega) (by decide) (by decide):small (n+1) 392=true))<|M1 (.obj 4<|aZ 28 true (ep+1)<|(out++[d]).map aY) (congrArg (aZ 28 true<|ep+1)<|dz (f:=aY) (l:=out) (ws:=[d]))<|K1 0 (.frz 6 []) (MA rt (tR 28 true (ep+1) 6<|aX wg<|out++[d]) (tM m.length 6<|aD (f:=ao) (fun _=>rfl) m 0) rt rt rt ti)<|Mf a
theorem Yo(d:PDeed)(ss:List PSpan)(day:Int)(p:aP)(m:List (Int×PStart))(ep n:Nat)(out:List PDeed)(hn:n=out.length)(hn2:n<2^20)(hc:kP 48 [.ls (ss.map aJ),iV day] (.bool true))(h1:dR d.it.for_ []=false)(h2:dR d.it.for_ p=true):kD 47 [aY d,.ls (ss.map aJ),.ptr 1 0 0 0,.ptr 0 0 0 0,.ptr 2 0 0 0] (ay [ip day,gi p,pe 4 ep n,dW m,pc ep out,gg d]) (.tuple []) (ay [ip day,gi p,pe 4 (ep+1) (n+1),dW m,pc (ep+1) (out++[d]),gg d]):=by
  exact fq Tryz.func47 fun a=>Kh 5 h1<|Kh 0 h1<|Kh 0 h1<|Kh 0 h1<|Kh 0 h1<|Kw 0 h1<|Kt 0 h2<|Kt 0 h2<|Kt 0 h2<|Mp hc<|MV h2<|K1 3 .app (cn (aU ep) (by(rw[lM];exact hn):n=(out.map aY).length) (by exact ef (m:=2^21) (by omega) (by decide) (by decide):small (n+1) 392=true))<|M1 (.obj 4<|aZ 28 true (ep+1)<|(out++[d]).map aY) (congrArg (aZ 28 true<|ep+1)<|dz (f:=aY) (l:=out) (ws:=[d]))<|K1 0 (.frz 6 []) (MA rt (tR 28 true (ep+1) 6<|aX wg<|out++[d]) (tM m.length 6<|aD (f:=ao) (fun _=>rfl) m 0) rt rt rt ti)<|Mf a
theorem Ue{day:Int}{p:aP}{m:List (Int×PStart)}{ds:List PDeed}{d:PDeed}(h:Bp day p m ds d=false):kP 48 [.ls ((dg (cT m d.act) d ds).map aJ),iV day] (.bool false)∨(dR d.it.for_ []=false∧dR d.it.for_ p=false):=by
  unfold Bp V0 at h
  have hz:=sk (cT m d.act) d ds day
  cases q:ic (dg (cT m d.act) d ds) day with
  |false=>rw[q]at hz;exact .inl hz
  |true=>rw[q,Bool.and_true,Ey]at h;exact .inr h
theorem OB{day:Int}{p:aP}{m:List (Int×PStart)}{ds:List PDeed}{d:PDeed}(h:Bp day p m ds d=true):kP 48 [.ls ((dg (cT m d.act) d ds).map aJ),iV day] (.bool true)∧(dR d.it.for_ []=true∨(dR d.it.for_ []=false∧dR d.it.for_ p=true)):=by
  unfold Bp V0 at h
  obtain⟨h1,h2⟩:=mK.1 h
  have hz:=sk (cT m d.act) d ds day
  rw[h2]at hz
  refine⟨hz,?_⟩
  cases q:dR d.it.for_ []with
  |true=>exact .inl rfl
  |false=>rw[q,Bool.false_or]at h1;exact .inr ⟨rfl,h1⟩
theorem Xe(day:Int)(p:aP)(m:List (Int×PStart))(ds:List PDeed)(d:PDeed)(hb:Bp day p m ds d=false):kD 47 [aY d,.ls ((dg (cT m d.act) d ds).map aJ),.ptr 1 0 0 0,.ptr 0 0 0 0,.ptr 2 0 0 0] (ay [ip day,gi p,qX,dW m,gg d]) (.tuple []) (ay [ip day,gi p,qX,dW m,gg d]):=by
  rcases Ue hb with h|⟨h1,h2⟩
  · exact YB d _ day p m h
  · exact YA d _ day p m h1 h2
theorem YF(day:Int)(p:aP)(m:List (Int×PStart))(ds:List PDeed)(d:PDeed)(hb:By (Bp day p m ds d) false):kD 47 [aY d,.ls ((dg (cT m d.act) d ds).map aJ),.ptr 1 0 0 0,.ptr 0 0 0 0,.ptr 2 0 0 0] (ay [ip day,gi p,qX,dW m,gg d]) (.tuple []) (ay [ip day,gi p,qX,dW m,gg d]):=Xe day p m ds d hb
theorem YE(day:Int)(p:aP)(m:List (Int×PStart))(ds:List PDeed)(d:PDeed)(hb:By (Bp day p m ds d) true):kD 47 [aY d,.ls ((dg (cT m d.act) d ds).map aJ),.ptr 1 0 0 0,.ptr 0 0 0 0,.ptr 2 0 0 0] (ay [ip day,gi p,qX,dW m,gg d]) (.tuple []) (ay [ip day,gi p,pe 5 0 1,dW m,gg d,pc 0 [d]]):=by
  obtain⟨h,h1|⟨h1,h2⟩⟩:=OB hb
  · exact Yu d _ day p m h h1
  · exact Yt d _ day p m h h1 h2
theorem YD(day:Int)(p:aP)(m:List (Int×PStart))(ds:List PDeed)(d:PDeed)(ep n:Nat)(out:List PDeed)(hb:By (Bp day p m ds d) false):kD 47 [aY d,.ls ((dg (cT m d.act) d ds).map aJ),.ptr 1 0 0 0,.ptr 0 0 0 0,.ptr 2 0 0 0] (ay [ip day,gi p,pe 4 ep n,dW m,pc ep out,gg d]) (.tuple []) (ay [ip day,gi p,pe 4 ep n,dW m,pc ep out,gg d]):=by
  rcases Ue hb with h|⟨h1,h2⟩
  · exact Ys d _ day p m ep n out h
  · exact Yr d _ day p m ep n out h1 h2
theorem YC(day:Int)(p:aP)(m:List (Int×PStart))(ds:List PDeed)(d:PDeed)(ep n:Nat)(out:List PDeed)(hb:By (Bp day p m ds d) true)(hn:n=out.length)(hn2:n<2^20):kD 47 [aY d,.ls ((dg (cT m d.act) d ds).map aJ),.ptr 1 0 0 0,.ptr 0 0 0 0,.ptr 2 0 0 0] (ay [ip day,gi p,pe 4 ep n,dW m,pc ep out,gg d]) (.tuple []) (ay [ip day,gi p,pe 4 (ep+1) (n+1),dW m,pc (ep+1) (out++[d]),gg d]):=by
  obtain⟨h,h1|⟨h1,h2⟩⟩:=OB hb
  · exact Yp d _ day p m ep n out hn hn2 h h1
  · exact Yo d _ day p m ep n out hn hn2 h h1 h2
theorem OE{day:Int}{p:aP}{m:List (Int×PStart)}{ds r:List PDeed}{d:PDeed}(h:fh d.it.kind=false):rf day p m ds (d::r)=rf day p m ds r:=by simp only[rf,List.filter_cons,h,Bool.false_and];rfl
theorem OD{day:Int}{p:aP}{m:List (Int×PStart)}{ds r:List PDeed}{d:PDeed}(h:Bp day p m ds d=false):rf day p m ds (d::r)=rf day p m ds r:=by simp only[rf,List.filter_cons,h,sr];rfl
theorem OC{day:Int}{p:aP}{m:List (Int×PStart)}{ds r:List PDeed}{d:PDeed}(h:fh d.it.kind=true)(h2:Bp day p m ds d=true):rf day p m ds (d::r)=d::rf day p m ds r:=by simp only[rf,List.filter_cons,h,h2];rfl
structure OnA(day:Int)(p:aP)(m:List (Int×PStart))(ds r:List PDeed):Prop where
  f:rf day p m ds ds=rf day p m ds r
structure OnR(day:Int)(p:aP)(m:List (Int×PStart))(ds r:List PDeed)(ep n:Nat)(out:List PDeed):Prop where
  len:n=out.length
  ep:ep+1=out.length
  small:out.length+r.length≤ds.length
  f:rf day p m ds ds=out++rf day p m ds r
theorem OnA.no{day:Int}{p:aP}{m:List (Int×PStart)}{ds r:List PDeed}{d:PDeed}(h:OnA day p m ds (d::r))(ha:fh d.it.kind=false):OnA day p m ds r:=⟨by rw[h.f,OE ha]⟩
theorem OnA.nil{day:Int}{p:aP}{m:List (Int×PStart)}{ds r:List PDeed}{d:PDeed}(h:OnA day p m ds (d::r))(hb:Bp day p m ds d=false):OnA day p m ds r:=⟨by rw[h.f,OD hb]⟩
theorem OnA.new{day:Int}{p:aP}{m:List (Int×PStart)}{ds r:List PDeed}{d:PDeed}{n:Nat}(h:OnA day p m ds (d::r))(hl:(d::r).length≤ds.length)(ha:fh d.it.kind=true)(hb:Bp day p m ds d=true)(hn:n=1):OnR day p m ds r 0 n [d]:=⟨hn,rfl,by simp only[lC,lN]at *;omega,by rw[h.f,OC ha hb];rfl⟩
theorem OnR.no{day:Int}{p:aP}{m:List (Int×PStart)}{ds r:List PDeed}{d:PDeed}{ep n:Nat}{out:List PDeed}(h:OnR day p m ds (d::r) ep n out)(ha:fh d.it.kind=false):OnR day p m ds r ep n out:=⟨h.len,h.ep,by have:=h.small;simp only[lC]at this;omega,by rw[h.f,OE ha]⟩
theorem OnR.nil{day:Int}{p:aP}{m:List (Int×PStart)}{ds r:List PDeed}{d:PDeed}{ep n:Nat}{out:List PDeed}(h:OnR day p m ds (d::r) ep n out)(hb:Bp day p m ds d=false):OnR day p m ds r ep n out:=⟨h.len,h.ep,by have:=h.small;simp only[lC]at this;omega,by rw[h.f,OD hb]⟩
theorem OnR.new{day:Int}{p:aP}{m:List (Int×PStart)}{ds r:List PDeed}{d:PDeed}{ep n k:Nat}{out:List PDeed}(h:OnR day p m ds (d::r) ep n out)(ha:fh d.it.kind=true)(hb:Bp day p m ds d=true)(hk:k=n+1):OnR day p m ds r (ep+1) k (out++[d]):=by
  have:=h.len;have:=h.ep;have:=h.small
  refine⟨?_,?_,?_,by rw[h.f,OC ha hb,nD];rfl⟩<;>simp only[lA,lC,lN]at * <;>omega
theorem OnR.done{day:Int}{p:aP}{m:List (Int×PStart)}{ds:List PDeed}{ep n:Nat}{out:List PDeed}(h:OnR day p m ds [] ep n out):ep=(rf day p m ds ds).length -1∧n=(rf day p m ds ds).length∧out=rf day p m ds ds:=by
  have e:rf day p m ds ds=out:=by rw[h.f];exact dr _
  have:=h.len;have:=h.ep
  rw[e];exact⟨by omega,by omega,rfl⟩
theorem U5{α:Type}{l r:List α}{j:Nat}{a:α}(h:l.drop j=a::r):(a::r).length≤l.length:=by rw[←h,xF];omega
theorem Uf{day:Int}{p:aP}{m:List (Int×PStart)}{ds r:List PDeed}{d:PDeed}(h:rf day p m ds (d::r)=[])(ha:fh d.it.kind=true):Bp day p m ds d=false:=by
  cases q:Bp day p m ds d with
  |false=>rfl
  |true=>rw[OC ha q]at h;cases h
theorem Wk(gs:List PGaz)(L:List PAct)(ds:List PDeed)(day:Int)(p:aP)(hL:L.length<10000)(hd:ds.length<100000)(ha:kP 69 [.ls (gs.map aB)] (.ls (L.map av)))(hi:kP 79 [.ls (gs.map aB)] (.ls (ds.map aY)))(hE:rf day p (xz L []) ds ds=[]):
    kD 46 [.ls (gs.map aB),.func (.func 47) [] [.ptr 1 0 0 0,.ptr 0 0 0 0,.ptr 2 0 0 0]] (ay [ip day,gi p,qX]) (.tuple []) (ay [ip day,gi p,qX]):=by
  have hlk:=zQ
  have hup:=BV
  let q1:=[iV day];exact fq Tryz.func46 fun a=>Kp 2 ha<|Kl 0 13 (ln av L)<|Mg 0<|KT av L ([]:List (Int×PStart)) [0,1,4,12,13,14] (fun a _ b=>([aW<|gs.map aB,bJ (bW 47) [] [bY 1 0 0 0,bY 0 0 0 0,bY 2 0 0 0],AV.map 3,aW<|L.map av,nV L.length,nV a],[aZ 1 false 0 [iV day],aZ 1 false 0 [aj p],aZ 1 false 0 [aa],AObj.map (bM ao b 0) b.length])) (fun a b=>xz L []=xz a b) (by rfl) (fun _ _ b _ _ _ c d=>Kh 0 c<|Kp 0 hi<|Kl 2 27 (ln aY ds)<|Mg 0<|Uj (0:Nat) ds () [1,4,7,26,27,28] (fun a _ _=>([bJ (bW 47) [] [bY 1 0 0 0,bY 0 0 0 0,bY 2 0 0 0],AV.map 3,aW<|ds.map aY,aW<|ds.map aY,nV ds.length,nV a],[aZ 1 false 0 [iV day],aZ 1 false 0 [aj p],aZ 1 false 0 [aa],AObj.map (bM ao b 0) b.length])) (fun a c _=>(ds).drop a=c∧rf day p b ds c=[]) (fun _ a _=>a.length) (et rfl<|by(rw[←show xz L []=b from d];exact hE)) fun c d e f g=>Mc d (fun c=>have d:=gn f.1 c;have:=jv (J:=fun a _=>rf day p b ds a=[]) (a:=e) c f.2;Kh 0 d<|M1 (.frz 3 []) (jF rt rt rt ti)<|Mf a) fun a d h=>let i:=[aw [iV a.act,iV a.item,iV a.day,iV a.it.kind,aW<|a.it.at_.map az,aW<|a.it.to.map az,iV a.it.where_,iV a.it.nth_,iV a.it.unit.act,iV a.it.unit.item,iV a.it.unit.n,iV a.it.unit.kind,aj a.it.unit.label,aW<|a.it.unit.head.map aQ,aW<|a.it.unit.words.map aQ,aW<|a.it.unit.kids.map aV,aW<|a.it.old.map mE,aW<|a.it.new.map mE,aj a.it.label,aj a.it.for_,iV a.it.start.kind,iV a.it.start.day,aj a.it.start.event,iV a.it.act,iV a.it.item,iV a.it.day,aj a.it.event,aW<|a.it.by_.map MF]];have j:=gp f.1 h;have:=ar j;have k:=gm (enc:=aY) f.1 h;have e:=cH (J:=fun a _=>rf day p b ds a=[]) (a:=e) h f.2;Kt 0 j<|Mx k<|Kp 5 (mL a.it.kind)<|Mb (fh a.it.kind) (fun _=>K1 4 (.look<|aw [iV (cT b a.act).kind,iV (cT b a.act).day,aj (cT b a.act).event]) (hlk b a.act)<|Kp 1 (mo (cT b a.act) a ds<|by(omega))<|M3 (.efx true (cV [])<|ay [aZ 1 false 0 q1,aZ 1 false 0 [aj p],aZ 1 false 0 [aa],AObj.map (bM ao b 0) b.length,aZ 28 false 0 i]) (xo rt (tM b.length 5<|aD (f:=ao) (fun _=>rfl) b 0) rt rt rt ti) (xo (aU<|some<|aZ 28 false 0 i) (aU<|some<|AObj.map (bM ao b 0) b.length) (aU<|some<|aZ 1 false 0 [aa]) (aU<|some<|aZ 1 false 0 [aj p]) (aU<|some<|aZ 1 false 0 q1) ti) (Xe day p b ds a<|by exact Uf e (by assumption))<|Kl 0 46 (de c)<|K1 0 (.frz 4 [1,4,7,26,27,28]) (CV (tM b.length 4<|aD (f:=ao) (fun _=>rfl) b 0) rt rt rt ti)<|Mf<|g (c+1) d () (et (b7 f.1 h)<|by(have z:=e;rw[OD (Uf z (by assumption))]at z;exact z))<|fF h) fun _=>Kl 0 46 (de c)<|K1 0 (.frz 4 [1,4,7,26,27,28]) (CV (tM b.length 4<|aD (f:=ao) (fun _=>rfl) b 0) rt rt rt ti)<|Mf<|g (c+1) d () (et (b7 f.1 h)<|by(have z:=e;rw[OE (by assumption)]at z;exact z))<|fF h) fun a _ b _ _ c d e _ f _ g h=>Kt 0 f<|Mx g<|K1 7 (.upd (bM ao (kh c.number c.start b) 0) (kh c.number c.start b).length) (hup b c)<|Kl 0 23 (de a)<|K1 0 (.frz 4 [0,1,4,12,13,14]) (CV (tM (kh c.number c.start b).length 4<|aD (f:=ao) (fun _=>rfl) (kh c.number c.start b) 0) rt rt rt ti)<|Mf<|e (kh c.number c.start b)<|by exact h
def GO(gs:List PGaz)(L:List PAct)(day:Int)(p:aP)(x0:Nat×List PAct×List (Int×PStart)):Prop:=(L).drop x0.1=x0.2.1∧xz L []=xz x0.2.1 x0.2.2
noncomputable def wt(gs:List PGaz)(L:List PAct)(day:Int)(p:aP)(x0:Nat×List PAct×List (Int×PStart)):List AV×List AObj:=([AV.ls (gs.map aB),AV.func (Fn.func 47) [] [AV.ptr 1 0 0 0,AV.ptr 0 0 0 0,AV.ptr 2 0 0 0],AV.map 3,AV.ls (L.map av),nV L.length,nV x0.1],[AObj.row 1 false 0 [iV day],AObj.row 1 false 0 [AV.str p],AObj.row 1 false 0 [AV.nils],AObj.map (bM ao x0.2.2 0) x0.2.2.length])
def GN(ds:List PDeed)(day:Int)(p:aP)(x0:Nat×List PAct×List (Int×PStart))(x1:Nat×List PDeed×Unit):Prop:=(ds).drop x1.1=x1.2.1∧OnA day p x0.2.2 ds x1.2.1
noncomputable def wo(ds:List PDeed)(day:Int)(p:aP)(x0:Nat×List PAct×List (Int×PStart))(x1:Nat×List PDeed×Unit):List AV×List AObj:=([AV.func (Fn.func 47) [] [AV.ptr 1 0 0 0,AV.ptr 0 0 0 0,AV.ptr 2 0 0 0],AV.map 3,AV.ls (ds.map aY),AV.ls (ds.map aY),nV ds.length,nV x1.1],[AObj.row 1 false 0 [iV day],AObj.row 1 false 0 [AV.str p],AObj.row 1 false 0 [AV.nils],AObj.map (bM ao x0.2.2 0) x0.2.2.length])
def GM(ds:List PDeed)(day:Int)(p:aP)(x0:Nat×List PAct×List (Int×PStart))(x1:Nat×List PDeed×Nat×Nat×List PDeed):Prop:=(ds).drop x1.1=x1.2.1∧OnR day p x0.2.2 ds x1.2.1 x1.2.2.1 x1.2.2.2.1 x1.2.2.2.2
noncomputable def GL(ds:List PDeed)(day:Int)(p:aP)(x0:Nat×List PAct×List (Int×PStart))(x1:Nat×List PDeed×Nat×Nat×List PDeed):List AV×List AObj:=([AV.func (Fn.func 47) [] [AV.ptr 1 0 0 0,AV.ptr 0 0 0 0,AV.ptr 2 0 0 0],AV.map 3,AV.ls (ds.map aY),AV.ls (ds.map aY),nV ds.length,nV x1.1],[AObj.row 1 false 0 [iV day],AObj.row 1 false 0 [AV.str p],AObj.row 1 false 0 [AV.slice 4 x1.2.2.1 0 x1.2.2.2.1 none],AObj.map (bM ao x0.2.2 0) x0.2.2.length,AObj.row 28 true x1.2.2.1 (x1.2.2.2.2.map aY)])
theorem Wj(gs:List PGaz)(L:List PAct)(ds:List PDeed)(day:Int)(p:aP)(hL:L.length<10000)(hd:ds.length<100000)(ha:kP 69 [.ls (gs.map aB)] (.ls (L.map av)))(hi:kP 79 [.ls (gs.map aB)] (.ls (ds.map aY)))(hE:rf day p (xz L []) ds ds≠[]):
    kD 46 [.ls (gs.map aB),.func (.func 47) [] [.ptr 1 0 0 0,.ptr 0 0 0 0,.ptr 2 0 0 0]] (ay [ip day,gi p,qX]) (.tuple []) (ay [ip day,gi p,pe 3 ((rf day p (xz L []) ds ds).length -1) (rf day p (xz L []) ds ds).length,pc ((rf day p (xz L []) ds ds).length -1) (rf day p (xz L []) ds ds)]):=by
  have hlk:=zQ
  have hup:=BV
  let q5:=[iV day];let q8:=cV [];let q10:=some (aZ 1 false 0 [aj p]);let q11:=some (aZ 1 false 0 q5);exact K7 Tryz.func46<|Kp 2 ha<|Kl 0 13 (ln av L)<|Mg 0<|ML (Nat×List PAct×List (Int×PStart)) [0,1,4,12,13,14] (wt gs L day p) (GO gs L day p) (fun a=>a.2.1.length) (0,L,[]) (aU<|wt gs L day p (0,L,[])) (et (rfl:List.drop 0 (L)=L) (by rfl:(xz L []=xz L []))) fun a b c=>let d:=some<|AObj.map (bM ao a.2.2 0) a.2.2.length;Mi (fun a b=>xz L []=xz a b) av b (fun _ b c=>Kh 0 b<|Kp 0 hi<|Kl 2 27 (ln aY ds)<|Mg 0<|MM (Nat×List PDeed×Unit) (Nat×List PDeed×Nat×Nat×List PDeed) [1,4,7,26,27,28] (wo ds day p a) (GL ds day p a) (GN ds day p a) (GM ds day p a) (fun a=>a.2.1.length) (fun a=>a.2.1.length) (.inl (0,ds,())) (aU<|wo ds day p a (0,ds,())) (et (rfl:List.drop 0 (ds)=ds) (by(exact⟨rfl⟩):(OnA day p a.2.2 ds ds))) (fun b e f=>Mc b.2.1 (fun d=>have f:=gn e.1 d;have b:=jv (J:=fun b _=>OnA day p a.2.2 ds b) (a:=b.2.2) d e.2;Kh 0 f<|Mw .abs (by exact hE (by rw[show xz L []=a.2.2 from c];exact b.f):False)) fun c g h=>let i:=[aw [iV c.act,iV c.item,iV c.day,iV c.it.kind,aW<|c.it.at_.map az,aW<|c.it.to.map az,iV c.it.where_,iV c.it.nth_,iV c.it.unit.act,iV c.it.unit.item,iV c.it.unit.n,iV c.it.unit.kind,aj c.it.unit.label,aW<|c.it.unit.head.map aQ,aW<|c.it.unit.words.map aQ,aW<|c.it.unit.kids.map aV,aW<|c.it.old.map mE,aW<|c.it.new.map mE,aj c.it.label,aj c.it.for_,iV c.it.start.kind,iV c.it.start.day,aj c.it.start.event,iV c.it.act,iV c.it.item,iV c.it.day,aj c.it.event,aW<|c.it.by_.map MF]];let j:=aw [iV (cT a.2.2 c.act).kind,iV (cT a.2.2 c.act).day,aj (cT a.2.2 c.act).event];have k:=gp e.1 h;have:=ar k;have l:=gm (enc:=aY) e.1 h;have m:=cH (J:=fun b _=>OnA day p a.2.2 ds b) (a:=b.2.2) h e.2;Kt 0 k<|Mx l<|Kp 5 (mL c.it.kind)<|Mb (fh c.it.kind) (fun _=>Ms (Bp day p a.2.2 ds c) (fun d=>K1 4 (.look j) (hlk a.2.2 c.act)<|Kp 1 (mo (cT a.2.2 c.act) c ds<|by(omega))<|M3 (.efx false q8<|ay [aZ 1 false 0 q5,aZ 1 false 0 [aj p],aZ 1 false 0 [aG 5 0 0 1 none],AObj.map (bM ao a.2.2 0) a.2.2.length,aZ 28 false 0 i,aZ 28 true 0 i]) (xo rt (tM a.2.2.length 5<|aD (f:=ao) (fun _=>rfl) a.2.2 0) rt rt rt ti) ti (YE day p a.2.2 ds c d)<|Kl 0 46 (de b.1)<|K1 0 (.ren [0,1,2,3,5,4] [3] [1,4,7,26,27,28]) (tN a.2.2.length<|aD (f:=ao) (fun _=>rfl) a.2.2 0)<|M1 (.frz 5 [1,4,7,26,27,28]) (xo rt (tM a.2.2.length 5<|aD (f:=ao) (fun _=>rfl) a.2.2 0) rt rt rt ti)<|Mf<|f (.inr (b.1+1,g,(0,1,[c]))) (et (b7 e.1 h) (by exact m.new (U5 (e.1.trans h)) (by assumption) (by assumption) rfl:(OnR day p a.2.2 ds g (0:Nat) (1:Nat) [c])))<|fF h) fun k=>K1 4 (.look j) (hlk a.2.2 c.act)<|Kp 1 (mo (cT a.2.2 c.act) c ds<|by(omega))<|M3 (.efx true q8<|ay [aZ 1 false 0 q5,aZ 1 false 0 [aj p],aZ 1 false 0 [aa],AObj.map (bM ao a.2.2 0) a.2.2.length,aZ 28 false 0 i]) (xo rt (tM a.2.2.length 5<|aD (f:=ao) (fun _=>rfl) a.2.2 0) rt rt rt ti) (xo (aU<|some<|aZ 28 false 0 i) (aU d) (aU<|some<|aZ 1 false 0 [aa]) (aU q10) (aU q11) ti) (YF day p a.2.2 ds c k)<|Kl 0 46 (de b.1)<|K1 0 (.frz 4 [1,4,7,26,27,28]) (CV (tM a.2.2.length 4<|aD (f:=ao) (fun _=>rfl) a.2.2 0) rt rt rt ti)<|Mf<|f (.inl (b.1+1,g,())) (et (b7 e.1 h) (by exact m.nil (by assumption):(OnA day p a.2.2 ds g)))<|fF h) fun _=>Kl 0 46 (de b.1)<|K1 0 (.frz 4 [1,4,7,26,27,28]) (CV (tM a.2.2.length 4<|aD (f:=ao) (fun _=>rfl) a.2.2 0) rt rt rt ti)<|Mf<|f (.inl (b.1+1,g,())) (et (b7 e.1 h) (by exact m.no (by assumption):(OnA day p a.2.2 ds g)))<|fF h) fun b e f=>let g:=[aG 4 b.2.2.1 0 b.2.2.2.1 none];let h:=List.map aY b.2.2.2.2;Mc b.2.1 (fun d=>have f:=gn e.1 d;have d:=jv (J:=fun b c=>OnR day p a.2.2 ds b c.1 c.2.1 c.2.2) (a:=b.2.2) d e.2;Kh 0 f<|M2 (.ren [0,1,2,4,3] [4,3] []) (tS 28 true b.2.2.1<|aX wg b.2.2.2.2) (tN a.2.2.length<|aD (f:=ao) (fun _=>rfl) a.2.2 0)<|M1 (.frz 4 []) (CV (tR 28 true b.2.2.1 4<|aX wg b.2.2.2.2) rt rt rt ti)<|Mf<|et (aU q8) (by(have q:=d.done;rw[show xz L []=a.2.2 from c,q.1,q.2.1,q.2.2]):(ay [AObj.row 1 false 0 [iV day],AObj.row 1 false 0 [AV.str p],AObj.row 1 false 0 [AV.slice 3 b.2.2.1 0 b.2.2.2.1 none],AObj.row 28 true b.2.2.1 (b.2.2.2.2.map aY)])=(ay [ip day,gi p,pe 3 ((rf day p (xz L []) ds ds).length -1) (rf day p (xz L []) ds ds).length,pc ((rf day p (xz L []) ds ds).length -1) (rf day p (xz L []) ds ds)]))) fun c i j=>let k:=[aw [iV c.act,iV c.item,iV c.day,iV c.it.kind,aW<|c.it.at_.map az,aW<|c.it.to.map az,iV c.it.where_,iV c.it.nth_,iV c.it.unit.act,iV c.it.unit.item,iV c.it.unit.n,iV c.it.unit.kind,aj c.it.unit.label,aW<|c.it.unit.head.map aQ,aW<|c.it.unit.words.map aQ,aW<|c.it.unit.kids.map aV,aW<|c.it.old.map mE,aW<|c.it.new.map mE,aj c.it.label,aj c.it.for_,iV c.it.start.kind,iV c.it.start.day,aj c.it.start.event,iV c.it.act,iV c.it.item,iV c.it.day,aj c.it.event,aW<|c.it.by_.map MF]];let l:=aw [iV (cT a.2.2 c.act).kind,iV (cT a.2.2 c.act).day,aj (cT a.2.2 c.act).event];have m:=gp e.1 j;have:=ar m;have n:=gm (enc:=aY) e.1 j;have o:=cH (J:=fun b c=>OnR day p a.2.2 ds b c.1 c.2.1 c.2.2) (a:=b.2.2) j e.2;Kt 0 m<|Mx n<|Kp 5 (mL c.it.kind)<|Mb (fh c.it.kind) (fun _=>Ms (Bp day p a.2.2 ds c) (fun d=>K1 4 (.look l) (hlk a.2.2 c.act)<|Kp 1 (mo (cT a.2.2 c.act) c ds<|by(omega))<|M3 (.efx false q8<|ay [aZ 1 false 0 q5,aZ 1 false 0 [aj p],aZ 1 false 0 [aG 4 (b.2.2.1+1) 0 (b.2.2.2.1+1) none],AObj.map (bM ao a.2.2 0) a.2.2.length,aZ 28 true (b.2.2.1+1)<|(b.2.2.2.2++[c]).map aY,aZ 28 false 0 k]) (MA rt (tR 28 true b.2.2.1 6<|aX wg b.2.2.2.2) (tM a.2.2.length 6<|aD (f:=ao) (fun _=>rfl) a.2.2 0) rt rt rt ti) ti (YC day p a.2.2 ds c b.2.2.1 b.2.2.2.1 b.2.2.2.2 d (by exact o.len)<|by(have z:=o.small;have z2:=o.len;simp only[lC]at z;omega))<|Kl 0 46 (de b.1)<|K1 0 (.frz 5 [1,4,7,26,27,28]) (xo (tR 28 true (b.2.2.1+1) 5<|aX wg<|b.2.2.2.2++[c]) (tM a.2.2.length 5<|aD (f:=ao) (fun _=>rfl) a.2.2 0) rt rt rt ti)<|Mf<|f (.inr (b.1+1,i,(b.2.2.1+1,b.2.2.2.1+1,b.2.2.2.2++[c]))) (et (b7 e.1 j) (by exact o.new (by assumption) (by assumption) rfl:(OnR day p a.2.2 ds i (b.2.2.1+1) (b.2.2.2.1+1) (b.2.2.2.2++[c]))))<|fF j) fun m=>K1 4 (.look l) (hlk a.2.2 c.act)<|Kp 1 (mo (cT a.2.2 c.act) c ds<|by(omega))<|M3 (.efx true q8<|ay [aZ 1 false 0 q5,aZ 1 false 0 [aj p],aZ 1 false 0 g,AObj.map (bM ao a.2.2 0) a.2.2.length,aZ 28 true b.2.2.1 h,aZ 28 false 0 k]) (MA rt (tR 28 true b.2.2.1 6<|aX wg b.2.2.2.2) (tM a.2.2.length 6<|aD (f:=ao) (fun _=>rfl) a.2.2 0) rt rt rt ti) (MA (aU<|some<|aZ 28 false 0 k) (aU<|some<|aZ 28 true b.2.2.1 h) (aU d) (aU<|some<|aZ 1 false 0 g) (aU q10) (aU q11) ti) (YD day p a.2.2 ds c b.2.2.1 b.2.2.2.1 b.2.2.2.2 m)<|Kl 0 46 (de b.1)<|K1 0 (.frz 5 [1,4,7,26,27,28]) (xo (tR 28 true b.2.2.1 5<|aX wg b.2.2.2.2) (tM a.2.2.length 5<|aD (f:=ao) (fun _=>rfl) a.2.2 0) rt rt rt ti)<|Mf<|f (.inr (b.1+1,i,(b.2.2.1,b.2.2.2.1,b.2.2.2.2))) (et (b7 e.1 j) (by exact o.nil (by assumption):(OnR day p a.2.2 ds i b.2.2.1 b.2.2.2.1 b.2.2.2.2)))<|fF j) fun _=>Kl 0 46 (de b.1)<|K1 0 (.frz 5 [1,4,7,26,27,28]) (xo (tR 28 true b.2.2.1 5<|aX wg b.2.2.2.2) (tM a.2.2.length 5<|aD (f:=ao) (fun _=>rfl) a.2.2 0) rt rt rt ti)<|Mf<|f (.inr (b.1+1,i,(b.2.2.1,b.2.2.2.1,b.2.2.2.2))) (et (b7 e.1 j) (by exact o.no (by assumption):(OnR day p a.2.2 ds i b.2.2.1 b.2.2.2.1 b.2.2.2.2)))<|fF j) fun d e f g _ h i=>Kt 0 g<|Mx h<|K1 7 (.upd (bM ao (kh d.number d.start a.2.2) 0) (kh d.number d.start a.2.2).length) (hup a.2.2 d)<|Kl 0 23 (de a.1)<|K1 0 (.frz 4 [0,1,4,12,13,14]) (CV (tM (kh d.number d.start a.2.2).length 4<|aD (f:=ao) (fun _=>rfl) (kh d.number d.start a.2.2) 0) rt rt rt ti)<|Mf<|c (a.1+1,e,kh d.number d.start a.2.2) (et (b7 b.1 f) (by exact i:(xz L []=xz e (kh d.number d.start a.2.2))))<|fF f
/-- What is in force on a day for a purpose. -/
noncomputable def Yb(day:Int)(p:aP)(L:List PAct)(ds:List PDeed):List PDeed:=rf day p (xz L []) ds ds
theorem Xc(gs:List PGaz)(day:Int)(p:aP)(hc:kD 46 [.ls (gs.map aB),.func (.func 47) [] [.ptr 1 0 0 0,.ptr 0 0 0 0,.ptr 2 0 0 0]] (ay [ip day,gi p,qX]) (.tuple []) (ay [ip day,gi p,qX])):kP 20 [iV day,.str p,.ls (gs.map aB)] (.ls (([]:List PDeed).map aY)):=by
  exact bu Tryz.func20<|Ke 5 hc<|Kf 1 bo
theorem Xb(gs:List PGaz)(day:Int)(p:aP)(X:List PDeed)(k:Nat)(hz:0<X.length)(hb:X.length<2^40)(hc:kD 46 [.ls (gs.map aB),.func (.func 47) [] [.ptr 1 0 0 0,.ptr 0 0 0 0,.ptr 2 0 0 0]] (ay [ip day,gi p,qX]) (.tuple []) (ay [ip day,gi p,pe 3 k X.length,pc k X])):kP 20 [iV day,.str p,.ls (gs.map aB)] (.ls (X.map aY)):=by
  let q:=List.map aY X;exact bu Tryz.func20<|Ke 5 hc<|Mg 1<|M2 (.fsl 0 [] 6 q) ti (cn (aU k) (tA aY X X.length rfl)<|aX wg X)<|Ml 6 (fw q false<|aX wg X)<|Mf<|ba<|aW q
theorem Xd(gs:List PGaz)(L:List PAct)(ds:List PDeed)(day:Int)(p:aP)(hL:L.length<10000)(hd:ds.length<100000)(ha:kP 69 [.ls (gs.map aB)] (.ls (L.map av)))(hi:kP 79 [.ls (gs.map aB)] (.ls (ds.map aY))):kP 20 [iV day,.str p,.ls (gs.map aB)] (.ls ((Yb day p L ds).map aY)):=by
  by_cases hE:Yb day p L ds=[]
  · rw[hE];exact Xc gs day p (Wk gs L ds day p hL hd ha hi hE)
  · have hl:(Yb day p L ds).length≤ds.length:=List.length_filter_le ..
    exact Xb gs day p _ _ (pt.2 hE) (by omega) (Wj gs L ds day p hL hd ha hi hE)
/-- The book with nothing in it. -/
def mP:TUnit:=⟨0,0,0,0,[],[],[],[]⟩
theorem Qd:OkB mP:=⟨by decide,by decide,fun x hx=>by
  have e:x=mP:=by simpa[mP,bg,dw]using hx
  subst e;exact⟨bD _,bD _⟩⟩
theorem Wm(X:List PDeed)(hl:X.length<2^30)(ho:∀d,d∈X→wR d.it):kP 63 [zU,.ls (X.map aY)] (.tuple [eU (di mP X),.ls ((bZ mP X).map af)]):=
  (RK mP X Qd hl ho).args (.cons (ve _ _ (by kernel_rfl)).1 (.cons (Le.refl _) .nil))
theorem Qu(X:List PDeed)(hl:X.length<2^30)(ho:∀d,d∈X→wR d.it):kP 31 [.ls (X.map aY)] (.tuple [eU (di mP X),.ls ((bZ mP X).map af)]):=by
  have h:=Wm X hl ho
  exact bu Tryz.func31<|Kp 3 h<|Kf 3<|ba<|cV [aw [iV (di mP X).act,iV (di mP X).item,iV (di mP X).n,iV (di mP X).kind,aj (di mP X).label,aW<|List.map aQ (di mP X).head,aW<|List.map aQ (di mP X).words,aW<|List.map aV (di mP X).kids],aW<|(bZ mP X).map af]
theorem Ds(gs:List PGaz)(day:Int)(p:aP)(X:List PDeed)(hon:kP 20 [iV day,.str p,.ls (gs.map aB)] (.ls (X.map aY))):kP 30 [iV day,.str p,.ls (gs.map aB)] (.ls (X.map aY)):=by
  exact bu Tryz.func30<|Kp 3 hon<|Kf 0<|ba<|aW<|X.map aY
/-- What the bound on gazettes tells. -/
structure OkG(gs:List PGaz):Prop where
  fit:pj gs
  len:gs.length≤9
  acts:∀g,g∈gs→g.acts.length≤20
  items:∀g,g∈gs→∀a,a∈g.acts→a.items.length≤40∧∀x,x∈a.items→mA x=true
theorem Bx:∀(ys out:List PAct),(ys.foldl jW out).length≤out.length+ys.length
  |[],out=>ah _
  | a::r,out=>by
    have:=Bx r (jW out a);have:=(N1 out a).2
    simp only[mV,lC];omega
theorem zg:∀(gs:List PGaz),(∀g,g∈gs→g.acts.length≤20)→∀out,(bX gs out).length≤out.length+20*gs.length
  |[],_,out=>ah _
  | g::r,hb,out=>by
    have:=zg r (fun x hx=>hb x (fU _ hx)) (g.acts.foldl jW out)
    have:=Bx g.acts out
    have:=hb g (fY ..)
    simp only[bX,mV,lC]at *
    omega
theorem N0{out:List PAct}{a b:PAct}(h:b∈jW out a):b∈out∨b=a:=by
  unfold jW at h
  split at h
  · exact .inl h
  · rcases ji.1 h with h|h
    · exact .inl h
    · exact .inr (mT.1 h)
theorem Bz:∀(ys out:List PAct)(b:PAct),b∈ys.foldl jW out→b∈out∨b∈ys
  |[],out,b,h=>.inl h
  | a::r,out,b,h=>by
    rcases Bz r (jW out a) b h with h|h
    · rcases N0 h with h|rfl
      · exact .inl h
      · exact .inr (fY ..)
    · exact .inr (fU _ h)
theorem zf:∀(gs:List PGaz)(out:List PAct)(b:PAct),b∈bX gs out→b∈out∨∃g,g∈gs∧b∈g.acts
  |[],out,b,h=>.inl h
  | g::r,out,b,h=>by
    rcases zf r (g.acts.foldl jW out) b h with h|⟨g2,q1,q2⟩
    · rcases Bz g.acts out b h with h|h
      · exact .inl h
      · exact .inr ⟨g,fY ..,h⟩
    · exact .inr ⟨g2,fU _ q1,q2⟩
theorem ux:∀(l:List PAct),(∀a,a∈l→a.items.length≤40)→(kV l).length≤40*l.length
  |[],_=>ah _
  | a::r,h=>by
    have:=ux r fun b hb=>h b (fU _ hb)
    have:=h a (fY ..)
    simp only[kV,Ez,lA,lJ,lC]at *
    omega
theorem OkG.act{gs:List PGaz}(h:OkG gs){a:PAct}(ha:a∈eD gs):a.items.length≤40∧(∀x,x∈a.items→mA x=true)∧MX a:=by
  have ha:=(je gs).mem_iff.1 ha
  rcases zf gs [] a ha with q|⟨g,h1,h2⟩
  · cases q
  · exact⟨(h.items g h1 a h2).1,(h.items g h1 a h2).2,(h.fit.2 g h1).2 a h2⟩
/-- The items as they stand. -/
noncomputable def qh(gs:List PGaz):List PDeed:=bI (am (eD gs) []) (eD gs)
theorem OkG.lens{gs:List PGaz}(h:OkG gs):(eD gs).length≤180∧(qh gs).length≤7200:=by
  have h1:=zg gs h.acts []
  have h2:=(je gs).length_eq
  have h3:=ux (eD gs) fun a ha=>(h.act ha).1
  have h4:=h.len
  have h5:(qh gs).length=(kV (eD gs)).length:=b6 ..
  simp only[lN]at h1
  omega
theorem OkG.all{gs:List PGaz}(h:OkG gs):kP 69 [.ls (gs.map aB)] (.ls ((eD gs).map av))∧kP 79 [.ls (gs.map aB)] (.ls ((qh gs).map aY)):=by
  have h1:=h.lens
  have h2:=(je gs).length_eq
  have h3:(qh gs).length=(kV (eD gs)).length:=b6 ..
  have h4:=h.len
  exact⟨KS gs h.fit (fun g hg=>pY (h.acts g hg) (by decide)) (by omega) (by omega),Pb gs h.fit (fun g hg=>pY (h.acts g hg) (by decide)) (by omega) (by omega) (fun a ha=>pY (h.act ha).1 (by decide)) (by omega)⟩
theorem Wg{x y:PItem}(h:mA x=true)(hy:y∈x.by_):mA y=true:=by
  rw[Dg]at h
  simp only[bU]at h
  have:=lp.1 h.2.2.2.2.2 y hy
  unfold GR at this
  exact(mK.1 this).2
theorem Wf{x y:PItem}(h:mO x)(hy:y∈x.by_):mO y:=(qw.1 h).2.2.2.2.2.2 y hy
theorem EP{K V:Type}{keq:K→K→Bool}{k:K}{v:V}:∀{l:List (K×V)}{e:K×V},e∈dD keq k v l→e∈l∨e.2=v
  | [],e,h=>by
    rw[dD,mT]at h;exact .inr (by rw[h])
  | (j,u)::r,e,h=>by
    rw[dD]at h
    cases q:keq k j with
    | true=>
      rw[q]at h
      rcases fO.1 h with h|h
      · exact .inr (by rw[h])
      · exact .inl (fU _ h)
    | false=>
      rw[q]at h
      rcases fO.1 h with h|h
      · exact .inl (by rw[h];exact fY ..)
      · rcases EP (l:=r) h with h|h
        · exact .inl (fU _ h)
        · exact .inr h
theorem F5{K V:Type}{keq:K→K→Bool}{k:K}{v:V}:∀{l:List (K×V)},iq keq k l=some v→∃e,e∈l∧e.2=v
  |[],h=>by cases h
  | (j,u)::r,h=>by
    rw[iq]at h
    cases q:keq k j with
    |true=>rw[q]at h;exact⟨(j,u),fY ..,I2 h⟩
    | false=>
      rw[q]at h
      obtain⟨e,h1,h2⟩:=F5 (l:=r) h
      exact⟨e,fU _ h1,h2⟩
theorem MT{m:List ((Int×Int)×PItem)}{x:PItem}(hm:∀e,e∈m→wR e.2)(h1:mA x=true)(h2:mO x):∀e,e∈jd m x→wR e.2:=by
  unfold jd
  split
  · rename_i h
    simp only[bU]at h
    have hl:=ar h.1.2
    have hy:gD x.by_ 0∈x.by_:=jZ (by simp only[oN]at hl;omega)
    intro e he
    rcases EP he with q|q
    · exact hm e q
    · rw[q];exact OS (Wf h2 hy) (Wg h1 hy)
  · exact hm
theorem Ca:∀(xs:List PItem)(m:List ((Int×Int)×PItem)),(∀e,e∈m→wR e.2)→(∀x,x∈xs→mA x=true∧mO x)→∀e,e∈xs.foldl jd m→wR e.2
  |[],_,hm,_=>hm
  |x::r,m,hm,h=>Ca r (jd m x) (MT hm (h x (fY ..)).1 (h x (fY ..)).2) fun y hy=>h y (fU _ hy)
theorem Cy:∀(l:List PAct)(m:List ((Int×Int)×PItem)),(∀e,e∈m→wR e.2)→(∀a,a∈l→∀x,x∈a.items→mA x=true∧mO x)→∀e,e∈am l m→wR e.2
  |[],_,hm,_=>hm
  |a::r,m,hm,h=>Cy r (a.items.foldl jd m) (Ca a.items m hm (h a (fY ..))) fun b hb=>h b (fU _ hb)
theorem zL(a:PAct):∀(l:List PItem)(i:Nat)(d:PDeed),d∈bP a l i→d.it∈l
  |[],_,d,h=>by cases h
  | x::r,i,d,h=>by
    rcases fO.1 h with rfl|h
    · exact fY ..
    · exact fU _ (zL a r _ d h)
theorem OkG.deed{gs:List PGaz}(h:OkG gs){d:PDeed}(hd:d∈qh gs):wR d.it:=by
  have hi:∀a,a∈eD gs→∀x,x∈a.items→mA x=true∧mO x:=fun a ha x hx=>⟨(h.act ha).2.1 x hx,(h.act ha).2.2.2 x hx⟩
  obtain⟨o,ho,rfl⟩:=jg.1 hd
  obtain⟨a,ha,hoa⟩:=List.mem_flatMap.1 ho
  have h1:=hi a ha _ (zL a _ _ _ hoa)
  have h2:wR o.it:=OS h1.2 h1.1
  unfold lZ
  split
  · rename_i hc
    have hc:=(mK.1 hc).1
    unfold qz at hc
    show wR (Hy (am (eD gs) []) o)
    unfold Hy
    cases q:iq eB (o.act,o.item) (am (eD gs) [])with
    |none=>rw[q]at hc;cases hc
    | some v=>
      obtain⟨e,e1,e2⟩:=F5 q
      have:=Cy (eD gs) [] (fun e he=>by cases he) hi e e1
      rw[e2]at this
      exact this
  · exact h2
/-- What is in force. -/
noncomputable def j9(day:Int)(p:aP)(gs:List PGaz):List PDeed:=Yb day p (eD gs) (qh gs)
theorem OkG.force{gs:List PGaz}(h:OkG gs)(day:Int)(p:aP):(j9 day p gs).length<2^30∧(∀d,d∈j9 day p gs→wR d.it)∧kP 20 [iV day,.str p,.ls (gs.map aB)] (.ls ((j9 day p gs).map aY)):=by
  have hl:=h.lens
  have h1:(j9 day p gs).length≤(qh gs).length:=List.length_filter_le ..
  exact⟨by omega,fun d hd=>h.deed (xE.1 hd).1,Xd gs _ _ day p (by omega) (by omega) h.all.1 h.all.2⟩
theorem QS(gs:List PGaz)(day:Int)(p:aP)(X:List PDeed)(hl:X.length<2^30)(ho:∀d,d∈X→wR d.it)(hon:kP 20 [iV day,.str p,.ls (gs.map aB)] (.ls (X.map aY))):kP 19 [iV day,.str p,.ls (gs.map aB)] (.ls ((bZ mP X).map af)):=by
  have h1:=Ds gs day p X hon
  have h2:=Qu X hl ho
  exact bu Tryz.func19<|Kp 3 h1<|Mp h2<|Kf 7<|ba<|aW<|(bZ mP X).map af
theorem OkG.fails{gs:List PGaz}(h:OkG gs)(day:Int)(p:aP):kP 19 [iV day,.str p,.ls (gs.map aB)] (.ls ((bZ mP (j9 day p gs)).map af)):=
  QS gs day p _ (h.force day p).1 (h.force day p).2.1 (h.force day p).2.2
noncomputable abbrev E8(a i:Int):AV:=.agg [iV a,iV i]
def EU(a i:Int)(d:PDeed):Bool:=ab d.act a&&ab d.item i
def wD(a i:Int)(d:PFail):Bool:=ab d.act a&&ab d.item i
theorem Tz(a i:Int)(d:PDeed):kP 49 [aY d,.pptr [E8 a i] 0 0] (.bool (EU a i d)):=by
  have rr0 b' (h:(EU a i d)=b':=by(simp only[EU,aR,aS,ax,bS, *];first|done|rfl)):=h;exact bu Tryz.func49<|Kj 7 d.act a (fun b _=>Kt 0 b<|Kt 0 b<|Kt 0 b<|Kt 0 b<|Ku 0 b<|Kf 0<|cZ<|rr0<|ab d.item i) fun b _=>Mh b<|Mh b<|Mh b<|Mh b<|My b<|Ky 0<|rr0 false
theorem TU(a i:Int)(d:PFail):kP 50 [af d,.pptr [E8 a i] 0 0] (.bool (wD a i d)):=by
  have rr0 b' (h:(wD a i d)=b':=by(simp only[wD,aR,aS,ax,bS, *];first|done|rfl)):=h;exact bu Tryz.func50<|Kj 7 d.act a (fun b _=>Kt 0 b<|Kt 0 b<|Kt 0 b<|Kt 0 b<|Ku 0 b<|Kf 0<|cZ<|rr0<|ab d.item i) fun b _=>Mh b<|Mh b<|Mh b<|Mh b<|My b<|Ky 0<|rr0 false
def ZZ(a:Int)(i:Int)(l:List PDeed)(x0:Nat×List PDeed×Unit):Prop:=(l).drop x0.1=x0.2.1∧co (EU a i) l (0:Nat)=co (EU a i) x0.2.1 (l.length-x0.2.1.length)
noncomputable def ZQ(a:Int)(i:Int)(l:List PDeed)(x0:Nat×List PDeed×Unit):List AV×List AObj:=([AV.ls (l.map aY),AV.func (Fn.func 49) [] [AV.pptr [AV.agg [iV a,iV i]] 0 0],nV l.length,nV x0.1],[])
theorem VG(a i:Int)(l:List PDeed)(hl:l.length<2^40):kP 89 [.ls (l.map aY),.func (.func 49) [] [.pptr [E8 a i] 0 0]] (iV (co (EU a i) l 0)):=by
  have rr0 b' (h:(co (EU a i) l 0)=b':=by first|exact j7 zD0 hr0 hj0 ‹_› |exact hj0):=h;exact bu Tryz.func89<|Kl 2 7 (ln aY l)<|Mg 0<|uy aY l [0,1,7,8] (fun b _=>([aW<|l.map aY,bJ (bW 49) [] [AV.pptr [aw [iV a,iV i]] 0 0],nV l.length,nV b],[])) (fun b=>co (EU a i) l (0:Nat)=co (EU a i) b (l.length-b.length)) (by(exact B0)) (fun _ _ zD0 _ hr0 b hj0=>Kh 0 b<|Kf 0<|li<|rr0 (-1)) fun b _ zD0 _ c d e hr0 f _ g hj0=>Kt 0 f<|Kx 4 g<|Kp 0 (Tz a i c)<|Mb (EU a i c) (fun _=>Kf 1<|li<|rr0<|Int.ofNat b) fun _=>Kl 0 18 (de b)<|Kf 0<|e<|by exact ie zD0 hr0 hj0 (by assumption)
def Y9(a:Int)(i:Int)(l:List PFail)(x0:Nat×List PFail×Unit):Prop:=(l).drop x0.1=x0.2.1∧co (wD a i) l (0:Nat)=co (wD a i) x0.2.1 (l.length-x0.2.1.length)
noncomputable def Y8(a:Int)(i:Int)(l:List PFail)(x0:Nat×List PFail×Unit):List AV×List AObj:=([AV.ls (l.map af),AV.func (Fn.func 50) [] [AV.pptr [AV.agg [iV a,iV i]] 0 0],nV l.length,nV x0.1],[])
theorem VD(a i:Int)(l:List PFail)(hl:l.length<2^40):kP 84 [.ls (l.map af),.func (.func 50) [] [.pptr [E8 a i] 0 0]] (iV (co (wD a i) l 0)):=by
  have rr0 b' (h:(co (wD a i) l 0)=b':=by first|exact j7 zD0 hr0 hj0 ‹_› |exact hj0):=h;exact bu Tryz.func84<|Kl 2 7 (ln af l)<|Mg 0<|uy af l [0,1,7,8] (fun b _=>([aW<|l.map af,bJ (bW 50) [] [AV.pptr [aw [iV a,iV i]] 0 0],nV l.length,nV b],[])) (fun b=>co (wD a i) l (0:Nat)=co (wD a i) b (l.length-b.length)) (by(exact B0)) (fun _ _ zD0 _ hr0 b hj0=>Kh 0 b<|Kf 0<|li<|rr0 (-1)) fun b _ zD0 _ c d e hr0 f _ g hj0=>Kt 0 f<|Kx 4 g<|Kp 0 (TU a i c)<|Mb (wD a i c) (fun _=>Kf 1<|li<|rr0<|Int.ofNat b) fun _=>Kl 0 18 (de b)<|Kf 0<|e<|by exact ie zD0 hr0 hj0 (by assumption)
theorem Wv(a i:Int)(l:List PDeed)(hl:l.length<2^40):kP 51 [.ls (l.map aY),.func (.func 49) [] [.pptr [E8 a i] 0 0]] (.bool (l.any (EU a i))):=by
  have h:=VG a i l hl
  have rr0 b' (h:(l.any (EU a i))=b':=by(rw[jY];simp only[aS,ax,bS,pV])):=h;exact bu Tryz.func51<|Kp 2 h<|Kf 1<|cZ<|rr0<|ax<|ap (co (EU a i) l 0) 0
theorem Ww(a i:Int)(l:List PFail)(hl:l.length<2^40):kP 52 [.ls (l.map af),.func (.func 50) [] [.pptr [E8 a i] 0 0]] (.bool (l.any (wD a i))):=by
  have h:=VD a i l hl
  have rr0 b' (h:(l.any (wD a i))=b':=by(rw[jY];simp only[aS,ax,bS,pV])):=h;exact bu Tryz.func52<|Kp 2 h<|Kf 1<|cZ<|rr0<|ax<|ap (co (wD a i) l 0) 0
theorem Tq(gs:List PGaz)(day:Int)(p:aP)(a i:Int)(X:List PDeed)(F:List PFail)(hr:kP 30 [iV day,.str p,.ls (gs.map aB)] (.ls (X.map aY)))(hf:kP 19 [iV day,.str p,.ls (gs.map aB)] (.ls (F.map af)))(hX:X.length<2^30)(hF:F.length<2^30):kP 21 [iV day,.str p,E8 a i,.ls (gs.map aB)] (.bool (X.any (EU a i)&&ax (F.any (wD a i)))):=by
  have h1:=Wv a i X (by omega)
  have h2:=Ww a i F (by omega)
  have rr0 b' (h:(X.any (EU a i)&&ax (F.any (wD a i)))=b':=by(simp only[aS,ax,bS, *];first|done|rfl)):=h;exact bu Tryz.func21<|Kp 8 hr<|K1 0 (.frz 0 [0,1,3,10,16,17]) ti<|Mp h1<|Kb 0 (X.any<|EU a i) (fun b=>Kt 0 b<|Kt 0 b<|Kt 0 b<|Mp hf<|Mt b<|Kt 0 b<|Mp h2<|Mt b<|Ku 0 b<|Kf 0<|cZ<|rr0<|ax<|F.any<|wD a i) fun b=>Mh b<|Mh b<|Mh b<|Mh b<|Mh b<|Mh b<|My b<|Ky 0<|rr0 false
theorem NJ(u:TUnit)(l:List PDeed)(hu:OkB u)(hl:l.length<2^30)(ho:∀d,d∈l→wR d.it)(hF:bZ u l≠[]):kD 63 [eU u,.ls (l.map aY)] (ay [Yy]) (.tuple [eU (di u l),.slice 1 ((bZ u l).length -1) 0 (bZ u l).length none]) (ay [Yy,fR ((bZ u l).length -1) (bZ u l)]):=by
  exact K7 Tryz.func63<|Kl 5 12 (ln aY l)<|Mg 0<|UE TUnit Nat Nat (List PFail) aY l u [2,4,6,11,12,13] (fun a _ b=>([bY 1 0 0 0,bY 2 0 0 0,aa,aW<|l.map aY,nV l.length,nV a],[aZ 8 false 0 [aw [iV 0,iV 0,iV 0,iV 0,aj [],aa,aa,aa]],aZ 8 false 0 [aw [iV b.act,iV b.item,iV b.n,iV b.kind,aj b.label,aW<|b.head.map aQ,aW<|b.words.map aQ,aW<|b.kids.map aV]],aZ 8 false 0 [aw [iV 0,iV 0,iV 0,iV 0,aj [],aa,aa,aa]]])) (fun a _ b c e f=>([bY 1 0 0 0,bY 2 0 0 0,aG 3 c 0 e none,aW<|l.map aY,nV l.length,nV a],[aZ 8 false 0 [aw [iV 0,iV 0,iV 0,iV 0,aj [],aa,aa,aa]],aZ 8 false 0 [aw [iV b.act,iV b.item,iV b.n,iV b.kind,aj b.label,aW<|b.head.map aQ,aW<|b.words.map aQ,aW<|b.kids.map aV]],aZ 8 false 0 [aw [iV 0,iV 0,iV 0,iV 0,aj [],aa,aa,aa]],aZ 3 true c<|f.map af])) (fun a b=>OkB b∧di u l=di b a∧bZ u l=bZ b a) (fun a b c e f=>OkB b∧e=f.length∧di u l=di b a∧bZ u l=f++bZ b a∧c+1=e) (by(exact⟨hu,rfl,rfl⟩)) (fun _ _ a _ _ _ b c=>Kh 0 b<|Mg 3<|M0 (.ren [0,2,1] [] [4,5])<|M1 (.frz 2 [4,5]) (cn rt rt ti)<|Mf<|et (by(exfalso;exact hF c.2.2):(AV.tuple [AV.agg [iV a.act,iV a.item,iV a.n,iV a.kind,AV.str a.label,AV.ls (a.head.map aQ),AV.ls (a.words.map aQ),AV.ls (a.kids.map aV)],AV.nils])=(AV.tuple [eU (di u l),AV.slice 1 ((bZ u l).length -1) 0 (bZ u l).length none])) (by(exfalso;exact hF c.2.2):(ay [AObj.row 8 false 0 [AV.agg [iV 0,iV 0,iV 0,iV 0,AV.str [],AV.nils,AV.nils,AV.nils]],AObj.row 8 false 0 [AV.agg [iV a.act,iV a.item,iV a.n,iV a.kind,AV.str a.label,AV.ls (a.head.map aQ),AV.ls (a.words.map aQ),AV.ls (a.kids.map aV)]]])=(ay [Yy,fR ((bZ u l).length -1) (bZ u l)]))) (fun a _ b c _ e f g h i j _ k n=>have c:=ho _<|aN c i;Kt 0 j<|Mx k<|Kp 5 (Ak e.it.kind)<|Kn 0 (oV e.it.kind) (fun _=>Kl 0 40 (de a)<|K1 0 (.frz 3 [2,4,6,11,12,13]) (jF rt rt rt ti)<|Mf<|g b<|by exact⟨n.1,n.2.1.trans (Lq (by assumption)).1,n.2.2.trans (Lq (by assumption)).2⟩) fun i=>Kp 1 (KM b e (by exact n.1) c i)<|Kc 7 (fg b e).2 0 (fun _ _=>Kl 12 40 (de a)<|Mg 0<|M0 (.ren [0,1,2,5,3,4] [] [2,4,6,11,12,13])<|M1 (.frz 4 [2,4,6,11,12,13]) (CV rt rt rt rt ti)<|Mf<|h (fg b e).1 0 1 [PFail.mk e.act e.item (fg b e).2]<|by exact⟨(lP ⟨n.1,c,by assumption⟩).2,rfl,n.2.1.trans (EC (by assumption) (by assumption)).1,n.2.2.trans (EC (by assumption) (by assumption)).2,rfl⟩) fun _ _=>Kl 2 40 (de a)<|K1 0 (.frz 3 [2,4,6,11,12,13]) (jF rt rt rt ti)<|Mf<|g (fg b e).1<|by exact⟨(lP ⟨n.1,c,by assumption⟩).2,n.2.1.trans (ED (by assumption) (by assumption)).1,n.2.2.trans (ED (by assumption) (by assumption)).2⟩) (fun _ _ a b c e _ _ _ f g=>Kh 0 f<|K1 3 (.ren [0,3,1,2] [3] [4,5]) (tS 3 true b<|aX fL e)<|M1 (.frz 2 [4,5]) (cn (tR 3 true b 2<|aX fL e) rt ti)<|Mf<|et (by(have e3:=g.2.2.2.1;rw[bZ,dr]at e3;have e2:=g.2.2.1;have e4:=g.2.2.2.2;have e1:=g.2.1;rw[e2,e3,←e1,←e4];rfl):(AV.tuple [AV.agg [iV a.act,iV a.item,iV a.n,iV a.kind,AV.str a.label,AV.ls (a.head.map aQ),AV.ls (a.words.map aQ),AV.ls (a.kids.map aV)],AV.slice 1 b 0 c none])=(AV.tuple [eU (di u l),AV.slice 1 ((bZ u l).length -1) 0 (bZ u l).length none])) (by(have e3:=g.2.2.2.1;rw[bZ,dr]at e3;have e4:=g.2.2.2.2;have e1:=g.2.1;rw[e3,←e1,←e4];rfl):(ay [AObj.row 8 false 0 [AV.agg [iV 0,iV 0,iV 0,iV 0,AV.str [],AV.nils,AV.nils,AV.nils]],AObj.row 3 true b (e.map af)])=(ay [Yy,fR ((bZ u l).length -1) (bZ u l)]))) fun a _ b c e f g _ h i _ j k n _ o p=>have g:=ho _<|aN g k;Kt 0 n<|Mx o<|Kp 5 (Ak h.it.kind)<|Kn 0 (oV h.it.kind) (fun _=>Kl 0 40 (de a)<|K1 0 (.frz 4 [2,4,6,11,12,13]) (CV (tR 3 true c 4<|aX fL f) rt rt rt ti)<|Mf<|j b c e f<|by exact⟨p.1,p.2.1,p.2.2.1.trans (Lq (by assumption)).1,p.2.2.2.1.trans (by rw[(Lq (by assumption)).2]),p.2.2.2.2⟩) fun k=>Kp 1 (KM b h (by exact p.1) g k)<|Kc 7 (fg b h).2 0 (fun _ _=>K1 7 .app (cn (aU c) (by(rw[lM];exact p.2.1):e=(f.map af).length) (by(have z:=zo p.2.2.2.1;have z2:=p.2.1;refine aC (m:=2^31) ?_ ?_ ?_<;>omega):small (e+1) 24=true))<|M1 (.obj 3<|aZ 3 true (c+1)<|(f++[PFail.mk h.act h.item (fg b h).2]).map af) (congrArg (aZ 3 true<|c+1)<|dz (f:=af) (l:=f) (ws:=[PFail.mk h.act h.item (fg b h).2]))<|Kl 3 40 (de a)<|K1 0 (.frz 4 [2,4,6,11,12,13]) (CV (tR 3 true (c+1) 4<|aX fL<|f++[PFail.mk h.act h.item (fg b h).2]) rt rt rt ti)<|Mf<|j (fg b h).1 (c+1) (e+1) (f++[PFail.mk h.act h.item (fg b h).2])<|by exact⟨(lP ⟨p.1,g,by assumption⟩).2,by(have:=p.2.1;simp only[lA,lC,lN];omega),p.2.2.1.trans (EC (by assumption) (by assumption)).1,p.2.2.2.1.trans (by rw[(EC (by assumption) (by assumption)).2];simp),by(have:=p.2.2.2.2;omega)⟩) fun _ _=>Kl 2 40 (de a)<|K1 0 (.frz 4 [2,4,6,11,12,13]) (CV (tR 3 true c 4<|aX fL f) rt rt rt ti)<|Mf<|j (fg b h).1 c e f<|by exact⟨(lP ⟨p.1,g,by assumption⟩).2,p.2.1,p.2.2.1.trans (ED (by assumption) (by assumption)).1,p.2.2.2.1.trans (by rw[(ED (by assumption) (by assumption)).2]),p.2.2.2.2⟩
theorem MG:kP 56 [] (eU mP):=by
  exact wk Tryz.func56 (.go 2 .fin) (aL (lc<|lc<|lc<|lc<|lc<|.cons bo<|.cons bo<|.cons bo .nil)<|by kernel_rfl:Le _ (AV.agg [iV 0,iV 0,iV 0,iV 0,AV.str [],AV.nils,AV.nils,AV.nils]))
theorem MI(X:List PDeed)(hl:X.length<2^30)(ho:∀d,d∈X→wR d.it)(hF:bZ mP X≠[]):kD 31 [.ls (X.map aY)] (ay []) (.tuple [eU (di mP X),.slice 0 ((bZ mP X).length -1) 0 (bZ mP X).length none]) (ay [fR ((bZ mP X).length -1) (bZ mP X)]):=by
  have h:=NJ mP X Qd hl ho hF
  have h0:=MG
  exact fq Tryz.func31 fun a=>Kp 1 h0<|Ke 0 h<|K1 3 (.ren [1,0] [1] [2,3]) (tS 3 true ((bZ mP X).length -1)<|aX fL<|bZ mP X)<|M1 (.frz 1 [2,3]) (et (tR 3 true ((bZ mP X).length -1) 1<|aX fL<|bZ mP X) ti)<|Mf a
theorem M6(gs:List PGaz)(day:Int)(p:aP)(X:List PDeed)(hl:X.length<2^30)(ho:∀d,d∈X→wR d.it)(hF:bZ mP X≠[])(hon:kP 20 [iV day,.str p,.ls (gs.map aB)] (.ls (X.map aY))):kD 19 [iV day,.str p,.ls (gs.map aB)] (ay []) (.slice 0 ((bZ mP X).length -1) 0 (bZ mP X).length none) (ay [fR ((bZ mP X).length -1) (bZ mP X)]):=by
  have h1:=Ds gs day p X hon
  have h2:=MI X hl ho hF
  exact fq Tryz.func19 fun a=>Kp 3 h1<|Me h2<|K1 7 (.frz 1 [6]) (et (tR 3 true ((bZ mP X).length -1) 1<|aX fL<|bZ mP X) ti)<|Mf a
end Go.Proofs.YtiodnhiainjfgaaGreatDoor
