/- Functions walked: what each of them answers, for Appending gazettes changes neither the book known after k gazettes nor the days that the k-th gazette changed (arguments of bulk at most 1048576): part 7. Conditions: those that each theorem names. -/
import Derived.Test.YtaepacpodblomaaGreatDoorH6
namespace Go.Proofs.YtaepacpodblomaaGreatDoor
open Go Go.Ev
noncomputable abbrev mI(ep:Nat)(out:List Int):AObj:=.row 1 true ep (out.map av)
theorem qe:kP 46 [.nils] (.ls ((fm []).map aJ)):=(gJ [] (by simp)).onArgs (.cons Le.nils .nil)
theorem Dh{g:Int→Bool}{K:List Int}{x e:Nat}{S:List PSpan}(h:S=dA g (K.drop (x-1)))(h1:1≤x)(h2:x<K.length)(hg:g (gD K (x-1))=true)(he:e=x+1):S=⟨gD K (x-1),gD K x⟩::dA g (K.drop (e-1)):=by rw[h,CU h1 h2,hg,he]
theorem Di{g:Int→Bool}{K:List Int}{x e:Nat}{S:List PSpan}(h:S=dA g (K.drop (x-1)))(h1:1≤x)(h2:x<K.length)(hg:g (gD K (x-1))=false)(he:e=x+1):S=dA g (K.drop (e-1)):=by rw[h,CU h1 h2,hg,he]
theorem YL:am (bX (px []))=[]:=rO (by have z:=As [];exact Nat.le_zero.1 z)
theorem Xx{A B x y:List PSpan}(h1:A=x)(h2:B=y):x++y=A++B:=by rw[h1,h2]
theorem RD{A B x:List PSpan}(h1:A=x)(h2:B=[]):x=A++B:=by rw[h1,h2,dC]
theorem Vl{A B y:List PSpan}(h1:A=[])(h2:B=y):y=A++B:=by rw[h1,h2];rfl
theorem Tp{A r:List PSpan}{w:PSpan}(h:A=w::r)(hl:A.length≤1048577):r.length<2^30:=by rw[h,lC]at hl;omega
theorem SD{A B:List PSpan}{w v:PSpan}{r s:List PSpan}(h:A=w::r)(k:B=v::s)(hl:A.length≤1048577)(kl:B.length≤1048577):small (r.length+1+((v::s).map aJ).length) 16=true:=by
  rw[h,lC]at hl;rw[k,lC]at kl
  rw[lM,lC];refine cE (m:=2^31) ?_ ?_ ?_<;>omega
theorem JP{B:List PSpan}{v:PSpan}{s:List PSpan}(k:B=v::s)(kl:B.length≤1048577):small ((v::s).map aJ).length 16=true:=by
  rw[k,lC]at kl
  rw[lM,lC];refine cE (m:=2^31) ?_ ?_ ?_<;>omega
def RH(F:Nat)(A:List PSpan)(B:List PSpan)(z20:List PSpan):Prop:=z20=A++B
noncomputable def RG(F:Nat)(A:List PSpan)(B:List PSpan)(z20:List PSpan):List AV×List AObj:=([AV.ls (A.map aJ),AV.ls (B.map aJ),AV.func (Fn.func F) [] [],AV.nils,AV.ls (z20.map aJ),nV z20.length,iV 0],[])
def NO(F:Nat)(A:List PSpan)(B:List PSpan)(z20:List PSpan)(z37:List Int):Prop:=z37=iy z20
noncomputable def NN(F:Nat)(A:List PSpan)(B:List PSpan)(z20:List PSpan)(z37:List Int):List AV×List AObj:=([AV.ls (A.map aJ),AV.ls (B.map aJ),AV.func (Fn.func F) [] [],AV.ls (z37.map av)],[])
def NM(F:Nat)(A:List PSpan)(B:List PSpan)(z20:List PSpan)(z37:List Int):Prop:=z37=iy z20
noncomputable def NL(F:Nat)(A:List PSpan)(B:List PSpan)(z20:List PSpan)(z37:List Int):List AV×List AObj:=([AV.ls (A.map aJ),AV.ls (B.map aJ),AV.func (Fn.func F) [] [],AV.ls (z37.map av)],[])
theorem Ln(F:Nat)(op:Bool→Bool→Bool)(hF:∀x y,ar Tryz.prog G F [.bool x,.bool y] (.bool (op x y)))(e0:op false false=false)(a b:List PSpan)(ha:a.length<2^30)(hb:b.length<2^30):
    ar Tryz.prog G 207 [.ls (a.map aJ),.ls (b.map aJ),.func (.func F) [] []] (.ls ((sq op a b).map aJ)):=by
  have nA:=gJ a ha
  have nB:=gJ b hb
  have hA:=jH a
  have hB:=jH b
  have hd:=NP e0 (a:=a) (b:=b) rfl rfl
  generalize fm a=A at *
  generalize fm b=B at *
  have lA:=hA.len
  have lB:=hB.len
  have hasA:∀d,ar Tryz.prog G 71 [.ls (A.map aJ),.int .i64 d] (.bool (ip A d)):=fun d=>I0 A d hA.sort (by omega)
  have hasB:∀d,ar Tryz.prog G 71 [.ls (B.map aJ),.int .i64 d] (.bool (ip B d)):=fun d=>I0 B d hB.sort (by omega)
  obtain⟨g,hg⟩:∃g:Int→Bool,g=fun d=>op (ip A d) (ip B d):=⟨_,rfl⟩
  have hgv:∀d v0,op (ip A d) (ip B d)=v0→g d=v0:=fun d v0 h=>by rw[hg];exact h
  rw[←hg]at hd
  have hcl:∀x,x=A++B→(iy x).length<2^30:=fun x hx=>by
    have z:=As x
    rw[hx,dM]at z
    rw[hx];omega
  have hll:∀x,x=A++B→x.length<2^22:=fun x hx=>by rw[hx,dM];omega
  obtain⟨res,hres⟩:∃res,res=sq op a b:=⟨_,rfl⟩
  rw[←hres]at hd ⊢
  have hdone:∀x y z,x=A++B→y=iy x→dA g y=z→fm z=res:=fun x y z h1 h2 h3=>by rw[←h3,h2,h1];exact hd
  clear hd hg hres hA hB
  have rr0 b' (h:(List.map aJ res)=b':=by first|rfl|exact hdone _ _ _ hz20 hz37 (by rw[hx1.2.2,kS hx1.1 (by(first|omega|(simp only[aR]at *;omega)))])|exact(hdone _ _ _ hz20 hz37 (by rw[hx1.2.2.2.2,kS hx1.1 (by(first|omega|(simp only[aR]at *;omega))),dC]))|(rw[hdone _ _ _ hz20 hz37 (by rw[hx1.2.2,kS hx1.1 (by(first|omega|(simp only[aR]at *;omega)))])])|(rw[hdone _ _ _ hz20 hz37 (by rw[hx1.2.2.2.2,kS hx1.1 (by(first|omega|(simp only[aR]at *;omega))),dC])])):=h;exact bD Tryz.func207<|Kp 1 nA<|Kp 0 nB<|Mg 2<|M0 .inn<|Mj (List PSpan) [0,1,2,7,20,21,22] (RG F A B) (RH F A B) (fun c=>Mg 0<|Mc A (fun e=>Ml 17 (fy<|by rw[e];rfl:Le (aW []) (aW (List.map aJ A)))<|Mz 17 (fun(_:([]:List AV)=[])=>Mg 1<|Mc B (fun e=>Ml 19 (fy<|by rw[e];rfl:Le (aW []) (aW (List.map aJ B)))<|Kl 0 20 bN<|Kf 1<|c [] (by exact RD (by assumption) (by assumption):[]=A++B)) fun e f i=>Ml 19 (fy<|by rw[i]:Le (aW (List.map aJ (e::f))) (aW (List.map aJ B)))<|M2 .apl (et (by exact nT _ _:List.map aJ (e::f)≠[])<|fM 2 aJ (e::f) fun _=>rfl) (by exact JP (by assumption) lB:small (List.map aJ (e::f)).length 16=true)<|M2 (.fsl 0 [0,1,2,7] 20<|List.map aJ<|e::f) True.intro (cZ (az 0) (tA aJ (e::f) (List.map aJ<|e::f).length (by(simp only[bG,cN,dM];done):(e::f).length=(List.map aJ (e::f)).length))<|aZ Ve<|e::f)<|Ml 20 (eX (List.map aJ<|e::f) false<|aZ Ve<|e::f)<|Kl 0 21 (ln aJ<|e::f)<|Kf 0<|c (e::f) (by exact Vl (by assumption) (by assumption):e::f=A++B))<|Mg 1<|Mc B (fun e=>Ml 19 (fy<|by rw[e];rfl:Le (aW []) (aW (List.map aJ B)))<|Kl 0 20 (eX [] true (az 0:ax ([])=0))<|Kf 1<|c [] (by exact RD (by assumption) (by assumption):[]=A++B)) fun e f i=>Ml 19 (fy<|by rw[i]:Le (aW (List.map aJ (e::f))) (aW (List.map aJ B)))<|M2 .apl (et (by exact nT _ _:List.map aJ (e::f)≠[])<|fM 2 aJ (e::f) fun _=>rfl) (by exact JP (by assumption) lB:small (List.map aJ (e::f)).length 16=true)<|M2 (.fsl 0 [0,1,2,7] 20<|List.map aJ<|e::f) True.intro (cZ (az 0) (tA aJ (e::f) (List.map aJ<|e::f).length (by(simp only[bG,cN,dM];done):(e::f).length=(List.map aJ (e::f)).length))<|aZ Ve<|e::f)<|Ml 20 (eX (List.map aJ<|e::f) false<|aZ Ve<|e::f)<|Kl 0 21 (ln aJ<|e::f)<|Kf 0<|c (e::f) (by exact Vl (by assumption) (by assumption):e::f=A++B)) fun e f i=>Ml 17 (fy<|by rw[i]:Le (aW (List.map aJ (e::f))) (aW (List.map aJ A)))<|Me (Rl e f<|by exact Tp (by assumption) lA)<|Mg 0<|Mc B (fun i=>Ml 19 (fy<|by rw[i];rfl:Le (aW []) (aW (List.map aJ B)))<|Mg 0<|M2 (.fsl 0 [0,1,2,7] 20<|List.map aJ<|e::f) True.intro (cZ (az 0) (tA aJ (e::f) (f.length+1) rfl)<|aZ Ve<|e::f)<|Ml 20 (eX (List.map aJ<|e::f) false<|aZ Ve<|e::f)<|Kl 0 21 (ln aJ<|e::f)<|Kf 0<|c (e::f) (by exact RD (by assumption) (by assumption):e::f=A++B)) fun i j k=>Ml 19 (fy<|by rw[k]:Le (aW (List.map aJ (i::j))) (aW (List.map aJ B)))<|M2 .apl (et (by exact nT _ _:List.map aJ (i::j)≠[])<|fM 2 aJ (i::j) fun _=>rfl) (cZ (az 0) (by(simp only[bG,cN,dM];done):f.length+1=(List.map aJ (e::f)).length) (by exact SD (by assumption) (by assumption) lA lB:small (f.length+1+(List.map aJ (i::j)).length) 16=true))<|M1 (.obj 0<|aX 2 true (0+1)<|List.map aJ<|e::f++i::j) (congrArg (aX 2 true<|0+1)<|cS (f:=aJ) (l:=e::f) (ws:=i::j))<|M2 (.fsl 0 [0,1,2,7] 20<|List.map aJ<|e::f++i::j) True.intro (cZ (az<|0+1) (tA aJ (e::f++i::j) (f.length+1+(List.map aJ<|i::j).length) (by(simp only[bG,cN,dM];done):(e::f++i::j).length=f.length+1+(List.map aJ (i::j)).length))<|aZ Ve<|e::f++i::j)<|Ml 20 (eX (List.map aJ<|e::f++i::j) false<|aZ Ve<|e::f++i::j)<|Kl 0 21 (ln aJ<|e::f++i::j)<|Kf 0<|c (e::f++i::j) (by exact Xx (by assumption) (by assumption):e::f++i::j=A++B)) fun c hz20=>have hz20:=hz20;kn Nat Nat (List Int) aJ c [0,1,2,7,20,21,22] (fun e _=>([aW<|A.map aJ,aW<|B.map aJ,bw (bj F) [] [],ah,aW<|c.map aJ,nV c.length,nV e],[])) (fun e _ f i j=>([aW<|A.map aJ,aW<|B.map aJ,bw (bj F) [] [],aM 0 f 0 i none,aW<|c.map aJ,nV c.length,nV e],[aX 1 true f<|j.map av])) (fun e=>px c=px e) (fun e _ f i=>f=i.length∧(0:Nat)<i.length∧px c=i++px e) (by rfl) (fun _ _ _ _ _ e f=>Kh 0 e<|Kp 0 GV<|Mj (List Int) [0,1,2,7] (NN F A B c) (NO F A B c) (fun e=>Kl 1 37 bN<|Kf 0<|e [] (by(unfold iy;rw[f];exact YL.symm):[]=iy c)) fun e hz37=>have hz37:=hz37;have:=hz37▸hcl _ hz20;Mg 1<|Sq Nat Nat Nat (List PSpan) (1:Nat) [0,1,2,7,10,11] (fun c=>([aW<|A.map aJ,aW<|B.map aJ,bw (bj F) [] [],aW<|e.map av,ah,nV c],[])) (fun c f i j=>([aW<|A.map aJ,aW<|B.map aJ,bw (bj F) [] [],aW<|e.map av,aM 0 f 0 i none,nV c],[aX 2 true f<|j.map aJ])) (fun c=>(1:Nat)≤c∧c≤2^30∧dA g e=dA g (e.drop<|c-1)) (fun c _ f i=>(1:Nat)≤c∧c≤2^30∧f=i.length∧i.length<c∧dA g e=i++dA g (e.drop<|c-1)) (fun c=>2^31-c) (fun c _ _ _=>2^31-c) (by exact⟨ao _,by omega,rfl⟩) (fun c hx1 f i=>have hx1:=hx1;have:=hx1.1;have:=hx1.2.1;Kl 2 40 (ln av e)<|Ka 0 (Int.ofNat c) (Int.ofNat e.length) (fun _ _=>Kl 2 46 (Bx c)<|Mx (bK av (by(simp only[aR,bG,kc]at *;omega):c-1<(e).length))<|Kp 4 (hasA<|gD e<|c-1)<|Kp 1 (hasB<|gD e<|c-1)<|Mp (hF (ip A<|gD e<|c-1)<|ip B<|gD e<|c-1)<|Mb (op (ip A<|gD e<|c-1)<|ip B<|gD e<|c-1) (fun _=>Kx 3 (bK av (by(simp only[aR,bG,kc]at *;omega):c<(e).length))<|Kl 6 43 (jq c)<|Kf 0<|i (c+1) 0 1 [PSpan.mk (gD e<|c-1)<|gD e c] (by exact⟨by(omega),by(simp only[aR]at *;omega),rfl,by(simp only[cN,gu];omega),Dh hx1.2.2 hx1.1 (by(simp only[aR]at *;omega)) (hgv _ _ (by assumption)) rfl⟩)<|by(omega)) fun _=>Kl 1 43 (jq c)<|Kf 0<|f (c+1) (by exact⟨by(omega),by(simp only[aR]at *;omega),Di hx1.2.2 hx1.1 (by(simp only[aR]at *;omega)) (hgv _ _ (by assumption)) rfl⟩)<|by(omega)) fun _ _=>Kp 0 qe<|Kf 0<|bR<|rr0<|List.map aJ<|fm []) fun c i j k hx1 _ l=>have hx1:=hx1;have:=hx1.1;have:=hx1.2.1;Kl 2 40 (ln av e)<|Ka 0 (Int.ofNat c) (Int.ofNat e.length) (fun _ _=>Kl 2 46 (Bx c)<|Mx (bK av (by(simp only[aR,bG,kc]at *;omega):c-1<(e).length))<|Kp 4 (hasA<|gD e<|c-1)<|Kp 1 (hasB<|gD e<|c-1)<|Mp (hF (ip A<|gD e<|c-1)<|ip B<|gD e<|c-1)<|Mb (op (ip A<|gD e<|c-1)<|ip B<|gD e<|c-1) (fun _=>Kx 3 (bK av (by(simp only[aR,bG,kc]at *;omega):c<(e).length))<|K1 2 .app (cZ (az i) (by(rw[bG];first|exact f.1|exact hx1.2.2.1):j=(List.map aJ k).length) (by(refine cE (m:=2^31) ?_ ?_ ?_<;>first|omega|(simp only[bG,cN,dM,gu];omega)|(have z:=congrArg List.length f.2.2;rw[kq,dM]at z;have z9:=hll _ hz20;have z2:=f.1;first|omega|(simp only[cN,gu];omega))|(have z:=hx1.2.2.2.1;have z2:=hx1.2.2.1;have z3:=hx1.2.1;first|omega|(simp only[cN,gu];omega))):small (j+1) 16=true))<|M1 (.obj 0<|aX 2 true (i+1)<|List.map aJ<|k++[PSpan.mk (gD e<|c-1)<|gD e c]) (congrArg (aX 2 true<|i+1)<|cS (f:=aJ) (l:=k) (ws:=[PSpan.mk (gD e<|c-1)<|gD e c]))<|Kl 2 43 (jq c)<|Kf 0<|l (c+1) (i+1) (j+1) (k++[PSpan.mk (gD e<|c-1)<|gD e c]) (by exact⟨by(omega),by(simp only[aR]at *;omega),by rw[dM,←hx1.2.2.1];rfl,by(have z:=hx1.2.2.2.1;simp only[dM,cN,gu];omega),by rw[hx1.2.2.2.2,Dh rfl hx1.1 (by(simp only[aR]at *;omega)) (hgv _ _ (by assumption)) rfl];simp⟩)<|by(omega)) fun _=>Kl 1 43 (jq c)<|Kf 0<|l (c+1) i j k (by exact⟨by(omega),by(simp only[aR]at *;omega),hx1.2.2.1,by(have z:=hx1.2.2.2.1;omega),by rw[hx1.2.2.2.2,Di rfl hx1.1 (by(simp only[aR]at *;omega)) (hgv _ _ (by assumption)) rfl]⟩)<|by(omega)) fun _ _=>Mg 0<|M2 (.fsl 0 [] 66<|List.map aJ k) True.intro (cZ (az i) (tA aJ k j (by(omega):(k).length=j))<|aZ Ve k)<|Ml 66 (eX (List.map aJ k) false<|aZ Ve k)<|Mp (gJ k<|by(omega))<|Kf 0<|bR<|rr0<|List.map aJ<|fm k) (fun e _ _ _ f i _ j _ k _ l n=>have:=hll _ hz20;Kt 0 k<|Mx l<|Kl 11 33 (jq e)<|Mg 0<|M0 (.ren [1,0] [] [0,1,2,7,20,21,22])<|M1 (.frz 1 [0,1,2,7,20,21,22]) (et (az true) True.intro)<|Mf<|j 0 2 [f.from_,f.to]<|by exact⟨rfl,by simp,by rw[n];rfl⟩) (fun _ _ e f i _ _ _ j k=>Kh 0 j<|Ke 0 (zT i e f (by(omega)) (by(omega))<|by(have z:=congrArg List.length k.2.2;rw[kq,dM]at z;have z9:=hll _ hz20;omega))<|Mj (List Int) [0,1,2,7] (NL F A B c) (NM F A B c) (fun j=>Ke 0 (sK (bX i) e f (by(rw[(ji _).length_eq];first|exact k.1|exact k.2.1|(have z:=congrArg List.length k.2.2;rw[kq,dM]at z;have z9:=hll _ hz20;omega))) (by(rw[(ji _).length_eq];first|exact k.1|exact k.2.1|(have z:=congrArg List.length k.2.2;rw[kq,dM]at z;have z9:=hll _ hz20;omega)))<|by(rw[(ji _).length_eq];first|exact k.1|exact k.2.1|(have z:=congrArg List.length k.2.2;rw[kq,dM]at z;have z9:=hll _ hz20;omega)))<|M2 (.fsl 0 [0,1,2] 37<|List.map av<|List.take (am<|bX i).length<|am (bX i)++List.replicate ((bX i).length -(am<|bX i).length) 0) True.intro (cZ (az e) (wi (f:=av) (l:=am (bX i)++List.replicate ((bX i).length -(am<|bX i).length) 0) (n:=(am<|bX i).length))<|aZ Jz<|List.take (am<|bX i).length<|am (bX i)++List.replicate ((bX i).length -(am<|bX i).length) 0)<|Ml 37 (eX (List.map av<|List.take (am<|bX i).length<|am (bX i)++List.replicate ((bX i).length -(am<|bX i).length) 0) false<|aZ Jz<|List.take (am<|bX i).length<|am (bX i)++List.replicate ((bX i).length -(am<|bX i).length) 0)<|Kf 0<|j (List.take (am<|bX i).length<|am (bX i)++List.replicate ((bX i).length -(am<|bX i).length) 0) (by(unfold iy;rw[k.2.2];simp[px]):List.take (am (bX i)).length (am (bX i)++List.replicate ((bX i).length -(am (bX i)).length) (0:Int))=iy c)) fun e hz37=>have hz37:=hz37;have:=hz37▸hcl _ hz20;Mg 1<|Sq Nat Nat Nat (List PSpan) (1:Nat) [0,1,2,7,10,11] (fun c=>([aW<|A.map aJ,aW<|B.map aJ,bw (bj F) [] [],aW<|e.map av,ah,nV c],[])) (fun c f i j=>([aW<|A.map aJ,aW<|B.map aJ,bw (bj F) [] [],aW<|e.map av,aM 0 f 0 i none,nV c],[aX 2 true f<|j.map aJ])) (fun c=>(1:Nat)≤c∧c≤2^30∧dA g e=dA g (e.drop<|c-1)) (fun c _ f i=>(1:Nat)≤c∧c≤2^30∧f=i.length∧i.length<c∧dA g e=i++dA g (e.drop<|c-1)) (fun c=>2^31-c) (fun c _ _ _=>2^31-c) (by exact⟨ao _,by omega,rfl⟩) (fun c hx1 f i=>have hx1:=hx1;have:=hx1.1;have:=hx1.2.1;Kl 2 40 (ln av e)<|Ka 0 (Int.ofNat c) (Int.ofNat e.length) (fun _ _=>Kl 2 46 (Bx c)<|Mx (bK av (by(simp only[aR,bG,kc]at *;omega):c-1<(e).length))<|Kp 4 (hasA<|gD e<|c-1)<|Kp 1 (hasB<|gD e<|c-1)<|Mp (hF (ip A<|gD e<|c-1)<|ip B<|gD e<|c-1)<|Mb (op (ip A<|gD e<|c-1)<|ip B<|gD e<|c-1) (fun _=>Kx 3 (bK av (by(simp only[aR,bG,kc]at *;omega):c<(e).length))<|Kl 6 43 (jq c)<|Kf 0<|i (c+1) 0 1 [PSpan.mk (gD e<|c-1)<|gD e c] (by exact⟨by(omega),by(simp only[aR]at *;omega),rfl,by(simp only[cN,gu];omega),Dh hx1.2.2 hx1.1 (by(simp only[aR]at *;omega)) (hgv _ _ (by assumption)) rfl⟩)<|by(omega)) fun _=>Kl 1 43 (jq c)<|Kf 0<|f (c+1) (by exact⟨by(omega),by(simp only[aR]at *;omega),Di hx1.2.2 hx1.1 (by(simp only[aR]at *;omega)) (hgv _ _ (by assumption)) rfl⟩)<|by(omega)) fun _ _=>Kp 0 qe<|Kf 0<|bR<|rr0<|List.map aJ<|fm []) fun c f i j hx1 _ l=>have hx1:=hx1;have:=hx1.1;have:=hx1.2.1;Kl 2 40 (ln av e)<|Ka 0 (Int.ofNat c) (Int.ofNat e.length) (fun _ _=>Kl 2 46 (Bx c)<|Mx (bK av (by(simp only[aR,bG,kc]at *;omega):c-1<(e).length))<|Kp 4 (hasA<|gD e<|c-1)<|Kp 1 (hasB<|gD e<|c-1)<|Mp (hF (ip A<|gD e<|c-1)<|ip B<|gD e<|c-1)<|Mb (op (ip A<|gD e<|c-1)<|ip B<|gD e<|c-1) (fun _=>Kx 3 (bK av (by(simp only[aR,bG,kc]at *;omega):c<(e).length))<|K1 2 .app (cZ (az f) (by(rw[bG];first|exact k.1|exact hx1.2.2.1):i=(List.map aJ j).length) (by(refine cE (m:=2^31) ?_ ?_ ?_<;>first|omega|(simp only[bG,cN,dM,gu];omega)|(have z:=congrArg List.length k.2.2;rw[kq,dM]at z;have z9:=hll _ hz20;have z2:=k.1;first|omega|(simp only[cN,gu];omega))|(have z:=hx1.2.2.2.1;have z2:=hx1.2.2.1;have z3:=hx1.2.1;first|omega|(simp only[cN,gu];omega))):small (i+1) 16=true))<|M1 (.obj 0<|aX 2 true (f+1)<|List.map aJ<|j++[PSpan.mk (gD e<|c-1)<|gD e c]) (congrArg (aX 2 true<|f+1)<|cS (f:=aJ) (l:=j) (ws:=[PSpan.mk (gD e<|c-1)<|gD e c]))<|Kl 2 43 (jq c)<|Kf 0<|l (c+1) (f+1) (i+1) (j++[PSpan.mk (gD e<|c-1)<|gD e c]) (by exact⟨by(omega),by(simp only[aR]at *;omega),by rw[dM,←hx1.2.2.1];rfl,by(have z:=hx1.2.2.2.1;simp only[dM,cN,gu];omega),by rw[hx1.2.2.2.2,Dh rfl hx1.1 (by(simp only[aR]at *;omega)) (hgv _ _ (by assumption)) rfl];simp⟩)<|by(omega)) fun _=>Kl 1 43 (jq c)<|Kf 0<|l (c+1) f i j (by exact⟨by(omega),by(simp only[aR]at *;omega),hx1.2.2.1,by(have z:=hx1.2.2.2.1;omega),by rw[hx1.2.2.2.2,Di rfl hx1.1 (by(simp only[aR]at *;omega)) (hgv _ _ (by assumption)) rfl]⟩)<|by(omega)) fun _ _=>Mg 0<|M2 (.fsl 0 [] 66<|List.map aJ j) True.intro (cZ (az f) (tA aJ j i (by(omega):(j).length=i))<|aZ Ve j)<|Ml 66 (eX (List.map aJ j) false<|aZ Ve j)<|Mp (gJ j<|by(omega))<|Kf 0<|bR<|rr0<|List.map aJ<|fm j) fun e _ f i j _ _ k l _ n _ o _ p q=>have:=hll _ hz20;Kt 0 o<|Mx p<|K1 8 .app (cZ (az f) (by(rw[bG];first|exact q.1|exact hx1.2.2.1):i=(List.map av j).length) (by(refine cE (m:=2^31) ?_ ?_ ?_<;>first|omega|(simp only[bG,cN,dM,gu];omega)|(have z:=congrArg List.length q.2.2;rw[kq,dM]at z;have z9:=hll _ hz20;have z2:=q.1;first|omega|(simp only[cN,gu];omega))|(have z:=hx1.2.2.2.1;have z2:=hx1.2.2.1;have z3:=hx1.2.1;first|omega|(simp only[cN,gu];omega))):small (i+2) 8=true))<|M1 (.obj 0<|aX 1 true (f+1)<|List.map av<|j++[k.from_,k.to]) (congrArg (aX 1 true<|f+1)<|cS (f:=av) (l:=j) (ws:=[k.from_,k.to]))<|Kl 1 33 (jq e)<|K1 0 (.frz 1 [0,1,2,7,20,21,22]) (et (tR 1 true (f+1) 1<|aZ Jz<|j++[k.from_,k.to]) True.intro)<|Mf<|n (f+1) (i+2) (j++[k.from_,k.to])<|by exact⟨by rw[dM,←q.1];rfl,by simp,by rw[q.2.2,CT];simp⟩
theorem WZ(x y:Bool):kP 208 [.bool x,.bool y] (.bool (x||y)):=by
  have rr0 b' (h:(x||y)=b':=by simp only[aS,aw,bS, *]):=h;exact bD Tryz.func208<|Kb 2 x (fun a=>MV a<|Ky 0<|rr0 true) fun a=>Kw 0 a<|Ky 0<|rr0 y
theorem UT(x y:Bool):kP 209 [.bool x,.bool y] (.bool (x&&y)):=by
  have rr0 b' (h:(x&&y)=b':=by simp only[aS,aw,bS, *]):=h;exact bD Tryz.func209<|Kb 2 x (fun a=>Ku 0 a<|Ky 0<|rr0 y) fun a=>My a<|Ky 0<|rr0 false
theorem On(a b:List PSpan)(ha:a.length<2^30)(hb:b.length<2^30):kP 147 [.ls (a.map aJ),.ls (b.map aJ)] (.ls ((sq (· || ·) a b).map aJ)):=by
  have h:=Ln 208 (· || ·) WZ rfl a b ha hb
  exact bD Tryz.func147<|Kp 2 h<|Kf 0<|bZ<|aW<|(sq (fun c d=>c||d) a b).map aJ
theorem Qw(a b:List PSpan)(ha:a.length<2^30)(hb:b.length<2^30):kP 150 [.ls (a.map aJ),.ls (b.map aJ)] (.ls ((sq (· && ·) a b).map aJ)):=by
  have h:=Ln 209 (· && ·) UT rfl a b ha hb
  exact bD Tryz.func150<|Kp 2 h<|Kf 0<|bZ<|aW<|(sq (fun c d=>c&&d) a b).map aJ
noncomputable def oF(a:List PSpan)(d:Int):List PSpan:=sq (· && ·) a [⟨0,d⟩]
noncomputable def pC(a:List PSpan)(d:Int):List PSpan:=sq (· || ·) (oF a d) [⟨d,1048577⟩]
theorem sa(a:List PSpan)(d:Int):NrmS (oF a d):=zf _
theorem ue(a:List PSpan)(d:Int):NrmS (pC a d):=zf _
theorem FQ(a:List PSpan)(d:Int)(ha:a.length<2^30):kP 122 [.ls (a.map aJ),iV d] (.ls ((oF a d).map aJ)):=by
  have h:kP 150 [.ls (a.map aJ),.ps [aJ ⟨0,d⟩] true] (.ls ((oF a d).map aJ)):=(Qw a [⟨0,d⟩] ha (by simp)).onArgs (.cons (Le.refl _) (.cons (Le.ps _ _ rfl) .nil))
  exact bD Tryz.func122<|Kp 4 h<|Kf 0<|bZ<|aW<|(oF a d).map aJ
theorem Q4(a:List PSpan)(d:Int)(ha:a.length<2^30):kP 120 [.ls (a.map aJ),iV d] (.ls ((pC a d).map aJ)):=by
  have h0:=FQ a d ha
  have hl:=(sa a d).len
  have h:kP 147 [.ls ((oF a d).map aJ),.ps [aJ ⟨d,1048577⟩] true] (.ls ((pC a d).map aJ)):=(On (oF a d) [⟨d,1048577⟩] (by omega) (by simp)).onArgs (.cons (Le.refl _) (.cons (Le.ps _ _ rfl) .nil))
  exact bD Tryz.func120<|Kp 2 h0<|Kp 2 h<|Kf 0<|bZ<|aW<|(pC a d).map aJ
noncomputable def sJ(k:Int):Bool:=al k 7||al k 9
noncomputable def kG(k:Int):Bool:=sJ k||al k 8
noncomputable def rR(k:Int):AV:=match sJ k with|true=>.func (.func 120) [] []|false=>match al k 8 with|true=>.func (.func 122) [] []|false=>.nilf
theorem zC(k:Int):eP (some .nilf) true (bd false 1 [(0,1)] (iV k) [⟨iV 7,.func (.func 120) [] [],0⟩,⟨iV 9,.func (.func 120) [] [],1⟩,⟨iV 8,.func (.func 122) [] [],2⟩] 0)=some (.tuple [rR k,.bool (kG k)]):=by
  unfold rR kG sJ
  simp only[bd,ql,GR,kg]
  cases h1:al k 7<;>cases h2:al k 9<;>cases h3:al k 8<;>rfl
theorem OD{k:Int}(h:sJ k=true):Le (.func (.func 120) [] []) (rR k):=by unfold rR;rw[h];exact Le.refl _
theorem Sm{k:Int}(h:sJ k=false)(h2:kG k=true):Le (.func (.func 122) [] []) (rR k):=by
  unfold kG at h2;rw[h,Bool.false_or]at h2
  unfold rR;rw[h,h2];exact Le.refl _
noncomputable def OE:List AEnt:=[⟨iV 7,.func (.func 120) [] [],0⟩,⟨iV 9,.func (.func 120) [] [],1⟩,⟨iV 8,.func (.func 122) [] [],2⟩]
theorem Si(x:PItem):kD 90 [] (ab [.row 25 false 0 [eI x]]) (.map 1) (ab [.row 25 false 0 [eI x],.map OE 3]):=by
  exact eS Tryz.func90 fun a=>Kf 6 a
theorem Sl(s:PStart)(d o:PDeed):kD 90 [] (ab [.row 3 false 0 [ay s],.row 28 false 0 [aq d],.row 28 false 0 [aq o]]) (.map 3) (ab [.row 3 false 0 [ay s],.row 28 false 0 [aq d],.row 28 false 0 [aq o],.map OE 3]):=by
  exact eS Tryz.func90 fun a=>Kf 6 a
noncomputable def rW(x:PItem)(a i:Int):Bool:=al x.act a&&(match al x.kind 11 with|true=>al x.item i|false=>kG x.kind&&(al x.item i||al x.item (-1)))
theorem MY(x:PItem)(a i:Int):kP 91 [eI x,iV a,iV i] (.bool (rW x a i)):=by
  have hlk:=zC
  have rr0 b' (h:(rW x a i)=b':=by unfold rW;generalize al x.act a=p1 at *;generalize al x.kind 11=p2 at *;generalize al x.item i=p3 at *;generalize al x.item (-1)=p4 at *;generalize kG x.kind=p5 at *;simp only[aS,aw,bS, *]):=h;let q:=[aj [iV x.kind,aW (x.at_.map ak),aW (x.to.map ak),iV x.where_,iV x.nth_,iV x.unit.act,iV x.unit.item,iV x.unit.n,iV x.unit.kind,aV x.unit.label,aW (x.unit.head.map aQ),aW (x.unit.words.map aQ),aW (x.unit.kids.map aY),aW (x.old.map mT),aW (x.new.map mT),aV x.label,aV x.for_,iV x.start.kind,iV x.start.day,aV x.start.event,iV x.act,iV x.item,iV x.day,aV x.event,aW (x.by_.map Np)]];let q1:=bw (bj 120) [] [];exact bD Tryz.func91<|Kc 5 x.act a (fun _ _=>Ky 0<|rr0 false) fun _ _=>Kj 2 x.kind 11 (fun _ _=>Kf 4<|cn<|rr0<|al x.item i) fun _ _=>M3 (.efx true (AV.map 1)<|ab [aX 25 false 0 q,AObj.map [AEnt.mk (iV 7) q1 0,AEnt.mk (iV 9) q1 1,AEnt.mk (iV 8) (bw (bj 122) [] []) 2] 3]) (et rt ti) (et (az<|some<|aX 25 false 0 q) ti) (Si x)<|K1 1 (.look<|eb [rR x.kind,dJ<|kG x.kind]) (hlk x.kind)<|Kb 6 (kG x.kind) (fun b=>Kt 0 b<|Kt 0 b<|Kt 0 b<|Kt 0 b<|Kj 0 x.item i (fun c _=>Mt c<|Mt c<|Mt b<|MV c<|MV b<|Ky 0<|rr0 true) fun c _=>Kh 0 c<|Kh 0 c<|Kt 0 b<|My c<|MV b<|Kf 0<|cn<|rr0<|al x.item (-1)) fun b=>Mh b<|Mh b<|Mh b<|Mh b<|Mh b<|My b<|Ky 0<|rr0 false
noncomputable abbrev gH(nm:aP):AObj:=.row 1 false 0 [.str nm]
noncomputable def sU(nm:aP)(d:PDeed):Bool:=al d.it.kind 10&&eZ d.it.event nm
theorem Q7(nm:aP)(d:PDeed):kD 149 [aq d,.ptr 0 0 0 0] (ab [gH nm]) (.bool (sU nm d)) (ab [gH nm]):=by
  let q:=ab [aX 1 false 0 [aV nm]];exact Oi Tryz.func149<|Kj 6 d.it.kind 10 (fun a _=>Kt 0 a<|Kt 0 a<|Kt 0 a<|Kt 0 a<|Ku 0 a<|K1 0 (.frz 1 [3]) (et rt ti)<|Mf<|et (by unfold sU;generalize al d.it.kind 10=p1 at *;generalize eZ d.it.event nm=p2 at *;simp only[aS,aw,bS, *]:(AV.bool (eZ d.it.event nm))=(AV.bool (sU nm d)))<|az q) fun a _=>Mh a<|Mh a<|Mh a<|Mh a<|My a<|K1 0 (.frz 1 [3]) (et rt ti)<|Mf<|et (by unfold sU;generalize al d.it.kind 10=p1 at *;generalize eZ d.it.event nm=p2 at *;simp only[aS,aw,bS, *]:(AV.bool false)=(AV.bool (sU nm d)))<|az q
noncomputable def jV(nm:aP):List PDeed→Nat→Int
  |[],_=> -1
  |d::r,i=>match sU nm d with|true=>Int.ofNat i|false=>jV nm r (i+1)
theorem K9(nm:aP):∀(l:List PDeed)(i:Nat),jV nm l i<Int.ofNat (i+l.length)∧(0≤jV nm l i∨jV nm l i= -1)
  |[],i=>⟨by simp only[jV,oN];omega,.inr rfl⟩
  | d::r,i=>by
    have:=K9 nm r (i+1)
    cases h:sU nm d<;>simp only[jV,h,oN,lC]at * <;>omega
theorem Ys{nm:aP}{d:PDeed}{r:List PDeed}{i:Nat}(h:sU nm d=true):jV nm (d::r) i=Int.ofNat i:=by simp only[jV,h]
theorem Yt{nm:aP}{d:PDeed}{r:List PDeed}{i:Nat}(h:sU nm d=false):jV nm (d::r) i=jV nm r (i+1):=by simp only[jV,h]
theorem CC(nm:aP)(l:List PDeed)(hl:l.length<2^40):kD 148 [.ls (l.map aq),.func (.func 149) [] [.ptr 0 0 0 0]] (ab [gH nm]) (iV (jV nm l 0)) (ab [gH nm]):=by
  let q:=ab [aX 1 false 0 [aV nm]];exact Oi Tryz.func148<|Kl 2 7 (ln aq l)<|Mg 0<|tJ aq l [0,1,7,8] (fun a _=>([aW<|l.map aq,bw (bj 149) [] [bz 0 0 0 0],nV l.length,nV a],[aX 1 false 0 [aV nm]])) (fun a=>jV nm l (0:Nat)=jV nm a (l.length-a.length)) (by(rw[Nat.sub_self])) (fun _ _ _ _ _ a b=>Kh 0 a<|Kf 0<|et (by(rw[b];rfl):(iV (-1))=(iV (jV nm l 0)))<|az q) fun a _ b _ c d e f g _ h i=>have:=gZ b f;Kt 0 g<|Kx 4 h<|Ke 0 (Q7 nm c)<|Mb (sU nm c) (fun _=>Kf 1<|et (by(rw[i,Ys (by assumption)];congr 2;have z:=Ij (b.trans f) (by simp) (by simp only[lC];omega:(l.length-(d.length+1))+(c::d).length=l.length);exact z):(nV a)=(iV (jV nm l 0)))<|az q) fun _=>Kl 0 18 (dU a)<|Kf 0<|e<|by(rw[i,Yt (by assumption)];congr 1;have:=gZ b f;simp only[lC];omega)
theorem Q5(d:Int):kP 120 [.nils,iV d] (.ls ((pC [] d).map aJ)):=(Q4 [] d (by simp)).onArgs (.cons Le.nils (.cons (Le.refl _) .nil))
theorem JX(nm:aP)(l:List PDeed)(hl:l.length<2^40)(h:aF (jV nm l 0) 0=true):kP 121 [.str nm,.ls (l.map aq)] (.tuple [iV 0,.bool false]):=by
  exact bD Tryz.func121<|Ke 4 (CC nm l hl)<|Kt 2 h<|Kf 1<|bZ<|eb [iV 0,dJ false]
theorem JW(nm:aP)(l:List PDeed)(hl:l.length<2^40)(h:aF (jV nm l 0) 0=false):kP 121 [.str nm,.ls (l.map aq)] (.tuple [iV (gD l (jV nm l 0).toNat).it.day,.bool true]):=by
  have g1:=aG h
  have g2:=(K9 nm l 0).1
  exact bD Tryz.func121<|Ke 4 (CC nm l hl)<|Kh 2 h<|Kl 1 13 (BV (x:=jV nm l 0) oA)<|Mx (bK aq (by(simp only[oN,lM,lS]at *;omega):(jV nm l 0).toNat<(l).length))<|Kf 4<|bZ<|eb [iV (gD l (jV nm l 0).toNat).it.day,dJ true]
noncomputable def lK(s:PStart)(l:List PDeed):List PSpan:=match al s.kind 1 with|true=>pC [] s.day|false=>match al s.kind 3 with|true=>(match aF (jV s.event l 0) 0 with|true=>[]|false=>pC [] (gD l (jV s.event l 0).toNat).it.day)|false=>[]
theorem NU(s:PStart)(l:List PDeed)(hl:l.length<2^40)(hi:aF (jV s.event l 0) 0=true):kP 88 [ay s,.ls (l.map aq)] (.ls ((lK s l).map aJ)):=by
  have he:=JX s.event l hl hi
  have e:lK s l=match al s.kind 1 with|true=>pC [] s.day|false=>[]:=(by unfold lK;rw[hi];cases al s.kind 1<;>cases al s.kind 3<;>rfl)
  rw[e]
  have rr0 b' (h:((match al s.kind 1 with|true=>pC [] s.day|false=>[]).map aJ)=b':=by generalize al s.kind 1=p1 at *;(rw[h0]);try rfl):=h;exact bD Tryz.func88<|Kj 5 s.kind 1 (fun h0 _=>Kp 1 (Q5 s.day)<|Kf 0<|bR<|rr0<|(pC [] s.day).map aJ) fun h0 _=>Kj 1 s.kind 3 (fun _ _=>Kp 2 he<|Kf 7 (Le.lsn<|rr0 []:Le _ (ah))) fun _ _=>Kf 0 (Le.lsn<|rr0 []:Le _ (ah))
theorem Nq(s:PStart)(l:List PDeed)(hl:l.length<2^40)(hi:aF (jV s.event l 0) 0=false):kP 88 [ay s,.ls (l.map aq)] (.ls ((lK s l).map aJ)):=by
  have he:=JW s.event l hl hi
  have e:lK s l=match al s.kind 1 with|true=>pC [] s.day|false=>match al s.kind 3 with|true=>pC [] (gD l (jV s.event l 0).toNat).it.day |false=>[]:=(by unfold lK;rw[hi])
  rw[e]
  have rr0 b' (h:((match al s.kind 1 with|true=>pC [] s.day|false=>match al s.kind 3 with|true=>pC [] (gD l (jV s.event l 0).toNat).it.day |false=>[]).map aJ)=b':=by generalize al s.kind 1=p1 at *;generalize al s.kind 3=p3 at *;(rw[h0]);(first|rw[h1]|skip);try rfl):=h;exact bD Tryz.func88<|Kj 5 s.kind 1 (fun h0 _=>Kp 1 (Q5 s.day)<|Kf 0<|bR<|rr0<|(pC [] s.day).map aJ) fun h0 _=>Kj 1 s.kind 3 (fun h1 _=>Kp 2 he<|Kp 7 (Q5 (gD l (jV s.event l 0).toNat).it.day)<|Kf 0<|bR<|rr0<|(pC [] (gD l (jV s.event l 0).toNat).it.day).map aJ) fun h1 _=>Kf 0 (Le.lsn<|rr0 []:Le _ (ah))
theorem IP(s:PStart)(l:List PDeed)(hl:l.length<2^40):kP 88 [ay s,.ls (l.map aq)] (.ls ((lK s l).map aJ)):=by
  cases hi:aF (jV s.event l 0) 0
  · exact Nq s l hl hi
  · exact NU s l hl hi
noncomputable def sf(d o:PDeed)(days:List PSpan):List PSpan:=match kG o.it.kind&&rW o.it d.act d.item with|true=>(match sJ o.it.kind with|true=>pC days o.it.day|false=>oF days o.it.day)|false=>days
noncomputable def lD(d:PDeed):List PDeed→List PSpan→List PSpan
  |[],days=>days
  |o::r,days=>lD d r (sf d o days)
noncomputable def an(s:PStart)(d:PDeed)(l:List PDeed):List PSpan:=match aF d.it.kind 0||aF 6 d.it.kind with|true=>[]|false=>lD d l (lK (effS s d.it.start) l)
theorem Nz(s:PStart)(l:List PDeed):(lK s l).length≤1048577:=by
  have h:=fun d=>(ue [] d).len
  unfold lK
  cases al s.kind 1<;>cases al s.kind 3<;>cases aF (jV s.event l 0) 0<;>simp only[lN]<;>first|exact h _|omega
theorem gj(s:PStart)(d:PDeed)(l:List PDeed)(hl:l.length<2^40):kP 70 [ay s,aq d,.ls (l.map aq)] (.ls ((an s d l).map aJ)):=by
  have hlk:=zC
  have hle1:∀k,sJ k=true→Le (.func (.func 120) [] []) (rR k):=fun k h=>OD h
  have hle2:∀k,sJ k=false→kG k=true→Le (.func (.func 122) [] []) (rR k):=fun k h h2=>Sm h h2
  have hil:=Nz (effS s d.it.start) l
  have hin:∀b,(aF d.it.kind 0||aF 6 d.it.kind)=b→an s d l=match b with|true=>[]|false=>lD d l (lK (effS s d.it.start) l):=fun b h=>by unfold an;rw[h]
  have hst:∀(o:PDeed)(r:List PDeed)(days:List PSpan),lD d (o::r) days=lD d r (sf d o days):=fun o r days=>rfl
  have rr0 b' (h:((an s d l).map aJ)=b':=by first|(rw[hin true (by simp only[aS,aw,bS, *];try rfl)];rfl)|(rw[hin false (by simp only[aS,aw,bS, *];try rfl)];first|exact congrArg _ hj0.2|exact congrArg _ hj0.2.symm|(rw[hj0.2];rfl))):=h;let q1:=[aj [iV d.act,iV d.item,iV d.day,iV d.it.kind,aW (d.it.at_.map ak),aW (d.it.to.map ak),iV d.it.where_,iV d.it.nth_,iV d.it.unit.act,iV d.it.unit.item,iV d.it.unit.n,iV d.it.unit.kind,aV d.it.unit.label,aW (d.it.unit.head.map aQ),aW (d.it.unit.words.map aQ),aW (d.it.unit.kids.map aY),aW (d.it.old.map mT),aW (d.it.new.map mT),aV d.it.label,aV d.it.for_,iV d.it.start.kind,iV d.it.start.day,aV d.it.start.event,iV d.it.act,iV d.it.item,iV d.it.day,aV d.it.event,aW (d.it.by_.map Np)]];let q2:=[aj [iV s.kind,iV s.day,aV s.event]];let q3:=bw (bj 120) [] [];exact bD Tryz.func70<|Ka 7 d.it.kind 0 (fun a _=>Mt a<|Mt a<|Mt a<|MV a<|Kf 1 (Le.lsn<|rr0 []:Le _ (ah))) fun a _=>Kh 0 a<|Kh 0 a<|Kh 0 a<|Kw 0 a<|Mb (aF 6 d.it.kind) (fun a=>have:=aA a;Kf 0 (Le.lsn<|rr0 []:Le _ (ah))) fun a=>have:=aG a;Kp 3 (HQ s d.it.start)<|Kp 0 (IP (effS s d.it.start) l hl)<|Kl 2 30 (ln aq l)<|Mg 0<|Sy (0:Nat) l (lK (effS s d.it.start) l) [4,7,29,30,31] (fun a _ c=>([bz 1 0 0 0,aW<|c.map aJ,aW<|l.map aq,nV l.length,nV a],[aX 3 false 0 [aj [iV s.kind,iV s.day,aV s.event]],aX 28 false 0 [aj [iV d.act,iV d.item,iV d.day,iV d.it.kind,aW<|d.it.at_.map ak,aW<|d.it.to.map ak,iV d.it.where_,iV d.it.nth_,iV d.it.unit.act,iV d.it.unit.item,iV d.it.unit.n,iV d.it.unit.kind,aV d.it.unit.label,aW<|d.it.unit.head.map aQ,aW<|d.it.unit.words.map aQ,aW<|d.it.unit.kids.map aY,aW<|d.it.old.map mT,aW<|d.it.new.map mT,aV d.it.label,aV d.it.for_,iV d.it.start.kind,iV d.it.start.day,aV d.it.start.event,iV d.it.act,iV d.it.item,iV d.it.day,aV d.it.event,aW<|d.it.by_.map Np]]])) (fun a c e=>(l).drop a=c∧e.length≤1048577∧lD d l (lK (effS s d.it.start) l)=lD d c e) (fun _ a _=>a.length) (et rfl<|by(exact⟨hil,rfl⟩)) fun a c e f g=>Mc c (fun a=>have c:=eB f.1 a;have hj0:=gx (J:=fun a c=>c.length≤1048577∧lD d l (lK (effS s d.it.start) l)=lD d a c) (a:=e) a f.2;Kh 0 c<|Kf 1<|bR<|rr0<|e.map aJ) fun c i j=>let m:=[aj [iV c.act,iV c.item,iV c.day,iV c.it.kind,aW<|c.it.at_.map ak,aW<|c.it.to.map ak,iV c.it.where_,iV c.it.nth_,iV c.it.unit.act,iV c.it.unit.item,iV c.it.unit.n,iV c.it.unit.kind,aV c.it.unit.label,aW<|c.it.unit.head.map aQ,aW<|c.it.unit.words.map aQ,aW<|c.it.unit.kids.map aY,aW<|c.it.old.map mT,aW<|c.it.new.map mT,aV c.it.label,aV c.it.for_,iV c.it.start.kind,iV c.it.start.day,aV c.it.start.event,iV c.it.act,iV c.it.item,iV c.it.day,aV c.it.event,aW<|c.it.by_.map Np]];have n:=eT f.1 j;have:=aA n;have p:=eA (enc:=aq) f.1 j;have hj0:=cV (J:=fun a c=>c.length≤1048577∧lD d l (lK (effS s d.it.start) l)=lD d a c) (a:=e) j f.2;Kt 0 n<|Mx p<|Mg 2<|M3 (.efx true (AV.map 3)<|ab [aX 3 false 0 q2,aX 28 false 0 q1,aX 28 false 0 m,AObj.map [AEnt.mk (iV 7) q3 0,AEnt.mk (iV 9) q3 1,AEnt.mk (iV 8) (bw (bj 122) [] []) 2] 3]) (jX rt rt rt ti) (jX (az<|some<|aX 28 false 0 m) (az<|some<|aX 28 false 0 q1) (az<|some<|aX 3 false 0 q2) ti) (Sl s d c)<|K1 2 (.look<|eb [rR c.it.kind,dJ<|kG c.it.kind]) (hlk c.it.kind)<|Kb 6 (kG c.it.kind) (fun m=>Kt 0 m<|Kt 0 m<|Kt 0 m<|Kt 0 m<|Kt 0 m<|Kt 0 m<|Mp (MY c.it d.act d.item)<|MV m<|Mb (rW c.it d.act d.item) (fun _=>Ks 4 (sJ c.it.kind) (fun m=>Ml 53 (hle1 c.it.kind m)<|Mp (Q4 e c.it.day oA)<|Kl 1 59 (dU a)<|K1 0 (.frz 2 [4,7,29,30,31]) (cZ rt rt ti)<|Mf<|g (a+1) i (pC e c.it.day) (et (bW f.1 j)<|by exact⟨(ue _ _).len,by rw[hj0.2,hst];simp only[sf, *];rfl⟩)<|dh j) fun n=>Ml 53 (hle2 c.it.kind n m)<|Mp (FQ e c.it.day oA)<|Kl 1 59 (dU a)<|K1 0 (.frz 2 [4,7,29,30,31]) (cZ rt rt ti)<|Mf<|g (a+1) i (oF e c.it.day) (et (bW f.1 j)<|by exact⟨(sa _ _).len,by rw[hj0.2,hst];simp only[sf, *];rfl⟩)<|dh j) fun _=>Kl 0 59 (dU a)<|K1 0 (.frz 2 [4,7,29,30,31]) (cZ rt rt ti)<|Mf<|g (a+1) i e (et (bW f.1 j)<|by exact⟨hj0.1,by rw[hj0.2,hst];simp only[sf,aS,aw,bS, *];try rfl⟩)<|dh j) fun c=>Mh c<|Mh c<|Mh c<|Mh c<|Mh c<|Mh c<|My c<|Kl 1 59 (dU a)<|K1 0 (.frz 2 [4,7,29,30,31]) (cZ rt rt ti)<|Mf<|g (a+1) i e (et (bW f.1 j)<|by exact⟨hj0.1,by rw[hj0.2,hst];simp only[sf,aS,aw,bS, *];try rfl⟩)<|dh j
noncomputable abbrev iH(d:Int):AObj:=.row 1 false 0 [iV d]
noncomputable abbrev qf:AObj:=.row 1 false 0 [.nils]
noncomputable abbrev pE(i ep n:Nat):AObj:=.row 1 false 0 [.slice i ep 0 n none]
noncomputable abbrev bm(m:List (Int×PStart)):AObj:=.map (ba ay m 0) m.length
noncomputable abbrev de(d:PDeed):AObj:=.row 28 false 0 [aq d]
noncomputable abbrev pB(ep:Nat)(l:List PDeed):AObj:=.row 28 true ep (l.map aq)
def dH:PStart:=⟨0,0,[]⟩
def aB(m:List (Int×PStart))(k:Int):PStart:=(gP k m).getD dH
theorem o9(m:List (Int×PStart))(k:Int):eP (some (.agg [iV 0,iV 0,.str []])) false (bd false 1 [(0,1)] (iV k) (ba ay m 0) 0)=some (ay (aB m k)):=by
  rw[zE]
  cases h:gP k m<;>simp only[aB,h,Option.getD]<;>rfl
theorem qS(m:List (Int×PStart))(a:PAct):rD (ba ay m 0) m.length (iV a.number) (.agg [iV a.start.kind,iV a.start.day,.str a.start.event]) (bd false 1 [(0,1)] (iV a.number) (ba ay m 0) 0)=some (ba ay (g9 a.number a.start m) 0,(g9 a.number a.start m).length):=B7 (f:=ay) a.number a.start m
/-- The starts of the acts by their numbers. -/
def kR(l:List PAct)(m:List (Int×PStart)):List (Int×PStart):=l.foldl (fun m a=>g9 a.number a.start m) m
theorem ng(s:PStart)(d:PDeed)(l:List PDeed):NrmS (an s d l):=by
  have h1:∀(s:PStart),NrmS (lK s l):=fun s=>by
    unfold lK
    cases al s.kind 1<;>cases al s.kind 3<;>cases aF (jV s.event l 0) 0<;>first|exact yX|exact ue _ _
  have h2:∀(r:List PDeed)(days:List PSpan),NrmS days→NrmS (lD d r days):=by
    intro r
    induction r with
    |nil=>intro days h;exact h
    | cons o r ih=>
      intro days h
      refine ih _ ?_
      unfold sf
      cases kG o.it.kind&&rW o.it d.act d.item<;>cases sJ o.it.kind<;>first|exact h|exact ue _ _|exact sa _ _
  unfold an
  cases aF d.it.kind 0||aF 6 d.it.kind
  · exact h2 l _ (h1 _)
  · exact yX
theorem sT(s:PStart)(d:PDeed)(l:List PDeed)(day:Int):kP 49 [.ls ((an s d l).map aJ),iV day] (.bool (ip (an s d l) day)):=by
  have hn:=ng s d l
  have h:=Hz (an s d l) day (l0 hn.len (by decide))
  rwa[show fm (an s d l)=an s d l from(KC hn).symm]at h
/-- Whether an amendment is told: its purpose, its days. -/
noncomputable def WL(p:aP)(d:PDeed):Bool:=eZ d.it.for_ []||eZ d.it.for_ p
noncomputable def Ca(day:Int)(p:aP)(m:List (Int×PStart))(ds:List PDeed)(d:PDeed):Bool:=WL p d&&ip (an (aB m d.act) d ds) day
noncomputable def sX(day:Int)(p:aP)(m:List (Int×PStart))(ds l:List PDeed):List PDeed:=l.filter fun d=>cC d.it.kind&&Ca day p m ds d
theorem ZD(d:PDeed)(ss:List PSpan)(day:Int)(p:aP)(m:List (Int×PStart))(hc:kP 49 [.ls (ss.map aJ),iV day] (.bool false)):kD 48 [aq d,.ls (ss.map aJ),.ptr 1 0 0 0,.ptr 0 0 0 0,.ptr 2 0 0 0] (ab [iH day,gH p,qf,bm m,de d]) (.tuple []) (ab [iH day,gH p,qf,bm m,de d]):=by
  exact eS Tryz.func48 fun a=>Kb 5 (eZ d.it.for_ (ByteArray.mk #[]).data.toList) (fun b=>Mt b<|Mt b<|Mt b<|Mt b<|MV b<|Kp 2 hc<|K1 1 (.frz 5 []) (yz rt (tM m.length 5<|af (f:=ay) (fun _=>rfl) m 0) rt rt rt ti)<|Mf a) fun b=>Kh 0 b<|Kh 0 b<|Kh 0 b<|Kh 0 b<|Kw 0 b<|Kb 0 (eZ d.it.for_ p) (fun b=>Kt 0 b<|Kt 0 b<|Mp hc<|MV b<|K1 0 (.frz 5 []) (yz rt (tM m.length 5<|af (f:=ay) (fun _=>rfl) m 0) rt rt rt ti)<|Mf a) fun b=>Mh b<|Mh b<|My b<|K1 0 (.frz 5 []) (yz rt (tM m.length 5<|af (f:=ay) (fun _=>rfl) m 0) rt rt rt ti)<|Mf a
theorem ZC(d:PDeed)(ss:List PSpan)(day:Int)(p:aP)(m:List (Int×PStart))(h1:eZ d.it.for_ []=false)(h2:eZ d.it.for_ p=false):kD 48 [aq d,.ls (ss.map aJ),.ptr 1 0 0 0,.ptr 0 0 0 0,.ptr 2 0 0 0] (ab [iH day,gH p,qf,bm m,de d]) (.tuple []) (ab [iH day,gH p,qf,bm m,de d]):=by
  exact eS Tryz.func48 fun a=>Kh 5 h1<|Kh 0 h1<|Kh 0 h1<|Kh 0 h1<|Kh 0 h1<|Kw 0 h1<|Kh 0 h2<|Mh h2<|Mh h2<|My h2<|K1 0 (.frz 5 []) (yz rt (tM m.length 5<|af (f:=ay) (fun _=>rfl) m 0) rt rt rt ti)<|Mf a
theorem ZB(d:PDeed)(ss:List PSpan)(day:Int)(p:aP)(m:List (Int×PStart))(hc:kP 49 [.ls (ss.map aJ),iV day] (.bool true))(h1:eZ d.it.for_ []=true):kD 48 [aq d,.ls (ss.map aJ),.ptr 1 0 0 0,.ptr 0 0 0 0,.ptr 2 0 0 0] (ab [iH day,gH p,qf,bm m,de d]) (.tuple []) (ab [iH day,gH p,pE 5 0 1,bm m,de d,pB 0 [d]]):=by
  exact eS Tryz.func48 fun a=>Kt 5 h1<|Mt h1<|Mt h1<|Mt h1<|Mt h1<|MV h1<|Kp 2 hc<|K1 6 (.ren [0,1,2,3,4,6,5] [3] []) (tN m.length<|af (f:=ay) (fun _=>rfl) m 0)<|M1 (.frz 6 []) (Ni rt rt (tM m.length 6<|af (f:=ay) (fun _=>rfl) m 0) rt rt rt ti)<|Mf a
theorem ZA(d:PDeed)(ss:List PSpan)(day:Int)(p:aP)(m:List (Int×PStart))(hc:kP 49 [.ls (ss.map aJ),iV day] (.bool true))(h1:eZ d.it.for_ []=false)(h2:eZ d.it.for_ p=true):kD 48 [aq d,.ls (ss.map aJ),.ptr 1 0 0 0,.ptr 0 0 0 0,.ptr 2 0 0 0] (ab [iH day,gH p,qf,bm m,de d]) (.tuple []) (ab [iH day,gH p,pE 5 0 1,bm m,de d,pB 0 [d]]):=by
  exact eS Tryz.func48 fun a=>Kh 5 h1<|Kh 0 h1<|Kh 0 h1<|Kh 0 h1<|Kh 0 h1<|Kw 0 h1<|Kt 0 h2<|Kt 0 h2<|Kt 0 h2<|Mp hc<|MV h2<|K1 5 (.ren [0,1,2,3,4,6,5] [3] []) (tN m.length<|af (f:=ay) (fun _=>rfl) m 0)<|M1 (.frz 6 []) (Ni rt rt (tM m.length 6<|af (f:=ay) (fun _=>rfl) m 0) rt rt rt ti)<|Mf a
theorem Zu(d:PDeed)(ss:List PSpan)(day:Int)(p:aP)(m:List (Int×PStart))(ep n:Nat)(out:List PDeed)(hc:kP 49 [.ls (ss.map aJ),iV day] (.bool false)):kD 48 [aq d,.ls (ss.map aJ),.ptr 1 0 0 0,.ptr 0 0 0 0,.ptr 2 0 0 0] (ab [iH day,gH p,pE 4 ep n,bm m,pB ep out,de d]) (.tuple []) (ab [iH day,gH p,pE 4 ep n,bm m,pB ep out,de d]):=by
  exact eS Tryz.func48 fun a=>Kb 5 (eZ d.it.for_ (ByteArray.mk #[]).data.toList) (fun b=>Mt b<|Mt b<|Mt b<|Mt b<|MV b<|Kp 2 hc<|K1 1 (.frz 6 []) (Ni rt (tR 28 true ep 6<|aZ xU out) (tM m.length 6<|af (f:=ay) (fun _=>rfl) m 0) rt rt rt ti)<|Mf a) fun b=>Kh 0 b<|Kh 0 b<|Kh 0 b<|Kh 0 b<|Kw 0 b<|Kb 0 (eZ d.it.for_ p) (fun b=>Kt 0 b<|Kt 0 b<|Mp hc<|MV b<|K1 0 (.frz 6 []) (Ni rt (tR 28 true ep 6<|aZ xU out) (tM m.length 6<|af (f:=ay) (fun _=>rfl) m 0) rt rt rt ti)<|Mf a) fun b=>Mh b<|Mh b<|My b<|K1 0 (.frz 6 []) (Ni rt (tR 28 true ep 6<|aZ xU out) (tM m.length 6<|af (f:=ay) (fun _=>rfl) m 0) rt rt rt ti)<|Mf a
theorem Zt(d:PDeed)(ss:List PSpan)(day:Int)(p:aP)(m:List (Int×PStart))(ep n:Nat)(out:List PDeed)(h1:eZ d.it.for_ []=false)(h2:eZ d.it.for_ p=false):kD 48 [aq d,.ls (ss.map aJ),.ptr 1 0 0 0,.ptr 0 0 0 0,.ptr 2 0 0 0] (ab [iH day,gH p,pE 4 ep n,bm m,pB ep out,de d]) (.tuple []) (ab [iH day,gH p,pE 4 ep n,bm m,pB ep out,de d]):=by
  exact eS Tryz.func48 fun a=>Kh 5 h1<|Kh 0 h1<|Kh 0 h1<|Kh 0 h1<|Kh 0 h1<|Kw 0 h1<|Kh 0 h2<|Mh h2<|Mh h2<|My h2<|K1 0 (.frz 6 []) (Ni rt (tR 28 true ep 6<|aZ xU out) (tM m.length 6<|af (f:=ay) (fun _=>rfl) m 0) rt rt rt ti)<|Mf a
theorem Zs(d:PDeed)(ss:List PSpan)(day:Int)(p:aP)(m:List (Int×PStart))(ep n:Nat)(out:List PDeed)(hn:n=out.length)(hn2:n<2^20)(hc:kP 49 [.ls (ss.map aJ),iV day] (.bool true))(h1:eZ d.it.for_ []=true):kD 48 [aq d,.ls (ss.map aJ),.ptr 1 0 0 0,.ptr 0 0 0 0,.ptr 2 0 0 0] (ab [iH day,gH p,pE 4 ep n,bm m,pB ep out,de d]) (.tuple []) (ab [iH day,gH p,pE 4 (ep+1) (n+1),bm m,pB (ep+1) (out++[d]),de d]):=by
  exact eS Tryz.func48 fun a=>Kt 5 h1<|Mt h1<|Mt h1<|Mt h1<|Mt h1<|MV h1<|Kp 2 hc<|K1 4 .app (cZ (az ep) (by(rw[lM];exact hn):n=(out.map aq).length) (by exact cE (m:=2^21) (by omega) (by decide) (by decide):small (n+1) 392=true))<|M1 (.obj 4<|aX 28 true (ep+1)<|(out++[d]).map aq) (congrArg (aX 28 true<|ep+1)<|cS (f:=aq) (l:=out) (ws:=[d]))<|K1 0 (.frz 6 []) (Ni rt (tR 28 true (ep+1) 6<|aZ xU<|out++[d]) (tM m.length 6<|af (f:=ay) (fun _=>rfl) m 0) rt rt rt ti)<|Mf a
theorem Zr(d:PDeed)(ss:List PSpan)(day:Int)(p:aP)(m:List (Int×PStart))(ep n:Nat)(out:List PDeed)(hn:n=out.length)(hn2:n<2^20)(hc:kP 49 [.ls (ss.map aJ),iV day] (.bool true))(h1:eZ d.it.for_ []=false)(h2:eZ d.it.for_ p=true):kD 48 [aq d,.ls (ss.map aJ),.ptr 1 0 0 0,.ptr 0 0 0 0,.ptr 2 0 0 0] (ab [iH day,gH p,pE 4 ep n,bm m,pB ep out,de d]) (.tuple []) (ab [iH day,gH p,pE 4 (ep+1) (n+1),bm m,pB (ep+1) (out++[d]),de d]):=by
  exact eS Tryz.func48 fun a=>Kh 5 h1<|Kh 0 h1<|Kh 0 h1<|Kh 0 h1<|Kh 0 h1<|Kw 0 h1<|Kt 0 h2<|Kt 0 h2<|Kt 0 h2<|Mp hc<|MV h2<|K1 3 .app (cZ (az ep) (by(rw[lM];exact hn):n=(out.map aq).length) (by exact cE (m:=2^21) (by omega) (by decide) (by decide):small (n+1) 392=true))<|M1 (.obj 4<|aX 28 true (ep+1)<|(out++[d]).map aq) (congrArg (aX 28 true<|ep+1)<|cS (f:=aq) (l:=out) (ws:=[d]))<|K1 0 (.frz 6 []) (Ni rt (tR 28 true (ep+1) 6<|aZ xU<|out++[d]) (tM m.length 6<|af (f:=ay) (fun _=>rfl) m 0) rt rt rt ti)<|Mf a
theorem Vq{day:Int}{p:aP}{m:List (Int×PStart)}{ds:List PDeed}{d:PDeed}(h:Ca day p m ds d=false):kP 49 [.ls ((an (aB m d.act) d ds).map aJ),iV day] (.bool false)∨(eZ d.it.for_ []=false∧eZ d.it.for_ p=false):=by
  unfold Ca WL at h
  have hz:=sT (aB m d.act) d ds day
  cases q:ip (an (aB m d.act) d ds) day with
  |false=>rw[q]at hz;exact .inl hz
  |true=>rw[q,Bool.and_true,BM]at h;exact .inr h
theorem Po{day:Int}{p:aP}{m:List (Int×PStart)}{ds:List PDeed}{d:PDeed}(h:Ca day p m ds d=true):kP 49 [.ls ((an (aB m d.act) d ds).map aJ),iV day] (.bool true)∧(eZ d.it.for_ []=true∨(eZ d.it.for_ []=false∧eZ d.it.for_ p=true)):=by
  unfold Ca WL at h
  obtain⟨h1,h2⟩:=pN.1 h
  have hz:=sT (aB m d.act) d ds day
  rw[h2]at hz
  refine⟨hz,?_⟩
  cases q:eZ d.it.for_ []with
  |true=>exact .inl rfl
  |false=>rw[q,Bool.false_or]at h1;exact .inr ⟨rfl,h1⟩
theorem Yb(day:Int)(p:aP)(m:List (Int×PStart))(ds:List PDeed)(d:PDeed)(hb:Ca day p m ds d=false):kD 48 [aq d,.ls ((an (aB m d.act) d ds).map aJ),.ptr 1 0 0 0,.ptr 0 0 0 0,.ptr 2 0 0 0] (ab [iH day,gH p,qf,bm m,de d]) (.tuple []) (ab [iH day,gH p,qf,bm m,de d]):=by
  rcases Vq hb with h|⟨h1,h2⟩
  · exact ZD d _ day p m h
  · exact ZC d _ day p m h1 h2
theorem ZH(day:Int)(p:aP)(m:List (Int×PStart))(ds:List PDeed)(d:PDeed)(hb:By (Ca day p m ds d) false):kD 48 [aq d,.ls ((an (aB m d.act) d ds).map aJ),.ptr 1 0 0 0,.ptr 0 0 0 0,.ptr 2 0 0 0] (ab [iH day,gH p,qf,bm m,de d]) (.tuple []) (ab [iH day,gH p,qf,bm m,de d]):=Yb day p m ds d hb
theorem ZG(day:Int)(p:aP)(m:List (Int×PStart))(ds:List PDeed)(d:PDeed)(hb:By (Ca day p m ds d) true):kD 48 [aq d,.ls ((an (aB m d.act) d ds).map aJ),.ptr 1 0 0 0,.ptr 0 0 0 0,.ptr 2 0 0 0] (ab [iH day,gH p,qf,bm m,de d]) (.tuple []) (ab [iH day,gH p,pE 5 0 1,bm m,de d,pB 0 [d]]):=by
  obtain⟨h,h1|⟨h1,h2⟩⟩:=Po hb
  · exact ZB d _ day p m h h1
  · exact ZA d _ day p m h h1 h2
theorem ZF(day:Int)(p:aP)(m:List (Int×PStart))(ds:List PDeed)(d:PDeed)(ep n:Nat)(out:List PDeed)(hb:By (Ca day p m ds d) false):kD 48 [aq d,.ls ((an (aB m d.act) d ds).map aJ),.ptr 1 0 0 0,.ptr 0 0 0 0,.ptr 2 0 0 0] (ab [iH day,gH p,pE 4 ep n,bm m,pB ep out,de d]) (.tuple []) (ab [iH day,gH p,pE 4 ep n,bm m,pB ep out,de d]):=by
  rcases Vq hb with h|⟨h1,h2⟩
  · exact Zu d _ day p m ep n out h
  · exact Zt d _ day p m ep n out h1 h2
theorem ZE(day:Int)(p:aP)(m:List (Int×PStart))(ds:List PDeed)(d:PDeed)(ep n:Nat)(out:List PDeed)(hb:By (Ca day p m ds d) true)(hn:n=out.length)(hn2:n<2^20):kD 48 [aq d,.ls ((an (aB m d.act) d ds).map aJ),.ptr 1 0 0 0,.ptr 0 0 0 0,.ptr 2 0 0 0] (ab [iH day,gH p,pE 4 ep n,bm m,pB ep out,de d]) (.tuple []) (ab [iH day,gH p,pE 4 (ep+1) (n+1),bm m,pB (ep+1) (out++[d]),de d]):=by
  obtain⟨h,h1|⟨h1,h2⟩⟩:=Po hb
  · exact Zs d _ day p m ep n out hn hn2 h h1
  · exact Zr d _ day p m ep n out hn hn2 h h1 h2
theorem Ps{day:Int}{p:aP}{m:List (Int×PStart)}{ds r:List PDeed}{d:PDeed}(h:cC d.it.kind=false):sX day p m ds (d::r)=sX day p m ds r:=by simp only[sX,List.filter_cons,h,Bool.false_and];rfl
theorem Pr{day:Int}{p:aP}{m:List (Int×PStart)}{ds r:List PDeed}{d:PDeed}(h:Ca day p m ds d=false):sX day p m ds (d::r)=sX day p m ds r:=by simp only[sX,List.filter_cons,h,yh];rfl
theorem Pp{day:Int}{p:aP}{m:List (Int×PStart)}{ds r:List PDeed}{d:PDeed}(h:cC d.it.kind=true)(h2:Ca day p m ds d=true):sX day p m ds (d::r)=d::sX day p m ds r:=by simp only[sX,List.filter_cons,h,h2];rfl
structure OnA(day:Int)(p:aP)(m:List (Int×PStart))(ds r:List PDeed):Prop where
  f:sX day p m ds ds=sX day p m ds r
structure OnR(day:Int)(p:aP)(m:List (Int×PStart))(ds r:List PDeed)(ep n:Nat)(out:List PDeed):Prop where
  len:n=out.length
  ep:ep+1=out.length
  small:out.length+r.length≤ds.length
  f:sX day p m ds ds=out++sX day p m ds r
theorem OnA.no{day:Int}{p:aP}{m:List (Int×PStart)}{ds r:List PDeed}{d:PDeed}(h:OnA day p m ds (d::r))(ha:cC d.it.kind=false):OnA day p m ds r:=⟨by rw[h.f,Ps ha]⟩
theorem OnA.nil{day:Int}{p:aP}{m:List (Int×PStart)}{ds r:List PDeed}{d:PDeed}(h:OnA day p m ds (d::r))(hb:Ca day p m ds d=false):OnA day p m ds r:=⟨by rw[h.f,Pr hb]⟩
theorem OnA.new{day:Int}{p:aP}{m:List (Int×PStart)}{ds r:List PDeed}{d:PDeed}{n:Nat}(h:OnA day p m ds (d::r))(hl:(d::r).length≤ds.length)(ha:cC d.it.kind=true)(hb:Ca day p m ds d=true)(hn:n=1):OnR day p m ds r 0 n [d]:=⟨hn,rfl,by simp only[lC,lN]at *;omega,by rw[h.f,Pp ha hb];rfl⟩
theorem OnR.no{day:Int}{p:aP}{m:List (Int×PStart)}{ds r:List PDeed}{d:PDeed}{ep n:Nat}{out:List PDeed}(h:OnR day p m ds (d::r) ep n out)(ha:cC d.it.kind=false):OnR day p m ds r ep n out:=⟨h.len,h.ep,by have:=h.small;simp only[lC]at this;omega,by rw[h.f,Ps ha]⟩
theorem OnR.nil{day:Int}{p:aP}{m:List (Int×PStart)}{ds r:List PDeed}{d:PDeed}{ep n:Nat}{out:List PDeed}(h:OnR day p m ds (d::r) ep n out)(hb:Ca day p m ds d=false):OnR day p m ds r ep n out:=⟨h.len,h.ep,by have:=h.small;simp only[lC]at this;omega,by rw[h.f,Pr hb]⟩
theorem OnR.new{day:Int}{p:aP}{m:List (Int×PStart)}{ds r:List PDeed}{d:PDeed}{ep n k:Nat}{out:List PDeed}(h:OnR day p m ds (d::r) ep n out)(ha:cC d.it.kind=true)(hb:Ca day p m ds d=true)(hk:k=n+1):OnR day p m ds r (ep+1) k (out++[d]):=by
  have:=h.len;have:=h.ep;have:=h.small
  refine⟨?_,?_,?_,by rw[h.f,Pp ha hb,nY];rfl⟩<;>simp only[lA,lC,lN]at * <;>omega
theorem OnR.done{day:Int}{p:aP}{m:List (Int×PStart)}{ds:List PDeed}{ep n:Nat}{out:List PDeed}(h:OnR day p m ds [] ep n out):ep=(sX day p m ds ds).length -1∧n=(sX day p m ds ds).length∧out=sX day p m ds ds:=by
  have e:sX day p m ds ds=out:=by rw[h.f];exact dC _
  have:=h.len;have:=h.ep
  rw[e];exact⟨by omega,by omega,rfl⟩
theorem Ix{α:Type}{l r:List α}{j:Nat}{a:α}(h:l.drop j=a::r):(a::r).length≤l.length:=by rw[←h,wY];omega
theorem Vz{day:Int}{p:aP}{m:List (Int×PStart)}{ds r:List PDeed}{d:PDeed}(h:sX day p m ds (d::r)=[])(ha:cC d.it.kind=true):Ca day p m ds d=false:=by
  cases q:Ca day p m ds d with
  |false=>rfl
  |true=>rw[Pp ha q]at h;cases h
theorem Xz(gs:List PGaz)(L:List PAct)(ds:List PDeed)(day:Int)(p:aP)(hL:L.length<10000)(hd:ds.length<100000)(ha:kP 67 [.ls (gs.map aK)] (.ls (L.map aa)))(hi:kP 68 [.ls (gs.map aK)] (.ls (ds.map aq)))(hE:sX day p (kR L []) ds ds=[]):
    kD 47 [.ls (gs.map aK),.func (.func 48) [] [.ptr 1 0 0 0,.ptr 0 0 0 0,.ptr 2 0 0 0]] (ab [iH day,gH p,qf]) (.tuple []) (ab [iH day,gH p,qf]):=by
  have hlk:=o9
  have hup:=qS
  let q1:=[iV day];exact eS Tryz.func47 fun a=>Kp 2 ha<|Kl 0 13 (ln aa L)<|Mg 0<|OX aa L ([]:List (Int×PStart)) [0,1,4,12,13,14] (fun a _ b=>([aW<|gs.map aK,bw (bj 48) [] [bz 1 0 0 0,bz 0 0 0 0,bz 2 0 0 0],AV.map 3,aW<|L.map aa,nV L.length,nV a],[aX 1 false 0 [iV day],aX 1 false 0 [aV p],aX 1 false 0 [ah],AObj.map (ba ay b 0) b.length])) (fun a b=>kR L []=kR a b) (by rfl) (fun _ _ b _ _ _ c d=>Kh 0 c<|Kp 0 hi<|Kl 2 27 (ln aq ds)<|Mg 0<|Sy (0:Nat) ds () [1,4,7,26,27,28] (fun a _ _=>([bw (bj 48) [] [bz 1 0 0 0,bz 0 0 0 0,bz 2 0 0 0],AV.map 3,aW<|ds.map aq,aW<|ds.map aq,nV ds.length,nV a],[aX 1 false 0 [iV day],aX 1 false 0 [aV p],aX 1 false 0 [ah],AObj.map (ba ay b 0) b.length])) (fun a c _=>(ds).drop a=c∧sX day p b ds c=[]) (fun _ a _=>a.length) (et rfl<|by(rw[←show kR L []=b from d];exact hE)) fun c d e f g=>Mc d (fun c=>have d:=eB f.1 c;have:=gx (J:=fun a _=>sX day p b ds a=[]) (a:=e) c f.2;Kh 0 d<|M1 (.frz 3 []) (jX rt rt rt ti)<|Mf a) fun a d h=>let i:=[aj [iV a.act,iV a.item,iV a.day,iV a.it.kind,aW<|a.it.at_.map ak,aW<|a.it.to.map ak,iV a.it.where_,iV a.it.nth_,iV a.it.unit.act,iV a.it.unit.item,iV a.it.unit.n,iV a.it.unit.kind,aV a.it.unit.label,aW<|a.it.unit.head.map aQ,aW<|a.it.unit.words.map aQ,aW<|a.it.unit.kids.map aY,aW<|a.it.old.map mT,aW<|a.it.new.map mT,aV a.it.label,aV a.it.for_,iV a.it.start.kind,iV a.it.start.day,aV a.it.start.event,iV a.it.act,iV a.it.item,iV a.it.day,aV a.it.event,aW<|a.it.by_.map Np]];have j:=eT f.1 h;have:=aA j;have k:=eA (enc:=aq) f.1 h;have e:=cV (J:=fun a _=>sX day p b ds a=[]) (a:=e) h f.2;Kt 0 j<|Mx k<|Kp 5 (jd a.it.kind)<|Mb (cC a.it.kind) (fun _=>K1 4 (.look<|aj [iV (aB b a.act).kind,iV (aB b a.act).day,aV (aB b a.act).event]) (hlk b a.act)<|Kp 1 (gj (aB b a.act) a ds<|by(omega))<|M3 (.efx true (eb [])<|ab [aX 1 false 0 q1,aX 1 false 0 [aV p],aX 1 false 0 [ah],AObj.map (ba ay b 0) b.length,aX 28 false 0 i]) (yz rt (tM b.length 5<|af (f:=ay) (fun _=>rfl) b 0) rt rt rt ti) (yz (az<|some<|aX 28 false 0 i) (az<|some<|AObj.map (ba ay b 0) b.length) (az<|some<|aX 1 false 0 [ah]) (az<|some<|aX 1 false 0 [aV p]) (az<|some<|aX 1 false 0 q1) ti) (Yb day p b ds a<|by exact Vz e (by assumption))<|Kl 0 46 (dU c)<|K1 0 (.frz 4 [1,4,7,26,27,28]) (xr (tM b.length 4<|af (f:=ay) (fun _=>rfl) b 0) rt rt rt ti)<|Mf<|g (c+1) d () (et (bW f.1 h)<|by(have z:=e;rw[Pr (Vz z (by assumption))]at z;exact z))<|dh h) fun _=>Kl 0 46 (dU c)<|K1 0 (.frz 4 [1,4,7,26,27,28]) (xr (tM b.length 4<|af (f:=ay) (fun _=>rfl) b 0) rt rt rt ti)<|Mf<|g (c+1) d () (et (bW f.1 h)<|by(have z:=e;rw[Ps (by assumption)]at z;exact z))<|dh h) fun a _ b _ _ c d e _ f _ g h=>Kt 0 f<|Mx g<|K1 7 (.upd (ba ay (g9 c.number c.start b) 0) (g9 c.number c.start b).length) (hup b c)<|Kl 0 23 (dU a)<|K1 0 (.frz 4 [0,1,4,12,13,14]) (xr (tM (g9 c.number c.start b).length 4<|af (f:=ay) (fun _=>rfl) (g9 c.number c.start b) 0) rt rt rt ti)<|Mf<|e (g9 c.number c.start b)<|by exact h
def Hd(gs:List PGaz)(L:List PAct)(day:Int)(p:aP)(x0:Nat×List PAct×List (Int×PStart)):Prop:=(L).drop x0.1=x0.2.1∧kR L []=kR x0.2.1 x0.2.2
noncomputable def xw(gs:List PGaz)(L:List PAct)(day:Int)(p:aP)(x0:Nat×List PAct×List (Int×PStart)):List AV×List AObj:=([AV.ls (gs.map aK),AV.func (Fn.func 48) [] [AV.ptr 1 0 0 0,AV.ptr 0 0 0 0,AV.ptr 2 0 0 0],AV.map 3,AV.ls (L.map aa),nV L.length,nV x0.1],[AObj.row 1 false 0 [iV day],AObj.row 1 false 0 [AV.str p],AObj.row 1 false 0 [AV.nils],AObj.map (ba ay x0.2.2 0) x0.2.2.length])
def Hc(ds:List PDeed)(day:Int)(p:aP)(x0:Nat×List PAct×List (Int×PStart))(x1:Nat×List PDeed×Unit):Prop:=(ds).drop x1.1=x1.2.1∧OnA day p x0.2.2 ds x1.2.1
noncomputable def xk(ds:List PDeed)(day:Int)(p:aP)(x0:Nat×List PAct×List (Int×PStart))(x1:Nat×List PDeed×Unit):List AV×List AObj:=([AV.func (Fn.func 48) [] [AV.ptr 1 0 0 0,AV.ptr 0 0 0 0,AV.ptr 2 0 0 0],AV.map 3,AV.ls (ds.map aq),AV.ls (ds.map aq),nV ds.length,nV x1.1],[AObj.row 1 false 0 [iV day],AObj.row 1 false 0 [AV.str p],AObj.row 1 false 0 [AV.nils],AObj.map (ba ay x0.2.2 0) x0.2.2.length])
def Hb(ds:List PDeed)(day:Int)(p:aP)(x0:Nat×List PAct×List (Int×PStart))(x1:Nat×List PDeed×Nat×Nat×List PDeed):Prop:=(ds).drop x1.1=x1.2.1∧OnR day p x0.2.2 ds x1.2.1 x1.2.2.1 x1.2.2.2.1 x1.2.2.2.2
noncomputable def Ha(ds:List PDeed)(day:Int)(p:aP)(x0:Nat×List PAct×List (Int×PStart))(x1:Nat×List PDeed×Nat×Nat×List PDeed):List AV×List AObj:=([AV.func (Fn.func 48) [] [AV.ptr 1 0 0 0,AV.ptr 0 0 0 0,AV.ptr 2 0 0 0],AV.map 3,AV.ls (ds.map aq),AV.ls (ds.map aq),nV ds.length,nV x1.1],[AObj.row 1 false 0 [iV day],AObj.row 1 false 0 [AV.str p],AObj.row 1 false 0 [AV.slice 4 x1.2.2.1 0 x1.2.2.2.1 none],AObj.map (ba ay x0.2.2 0) x0.2.2.length,AObj.row 28 true x1.2.2.1 (x1.2.2.2.2.map aq)])
theorem Xq(gs:List PGaz)(L:List PAct)(ds:List PDeed)(day:Int)(p:aP)(hL:L.length<10000)(hd:ds.length<100000)(ha:kP 67 [.ls (gs.map aK)] (.ls (L.map aa)))(hi:kP 68 [.ls (gs.map aK)] (.ls (ds.map aq)))(hE:sX day p (kR L []) ds ds≠[]):
    kD 47 [.ls (gs.map aK),.func (.func 48) [] [.ptr 1 0 0 0,.ptr 0 0 0 0,.ptr 2 0 0 0]] (ab [iH day,gH p,qf]) (.tuple []) (ab [iH day,gH p,pE 3 ((sX day p (kR L []) ds ds).length -1) (sX day p (kR L []) ds ds).length,pB ((sX day p (kR L []) ds ds).length -1) (sX day p (kR L []) ds ds)]):=by
  have hlk:=o9
  have hup:=qS
  let q5:=[iV day];let q8:=eb [];let q10:=some (aX 1 false 0 [aV p]);let q11:=some (aX 1 false 0 q5);exact Oi Tryz.func47<|Kp 2 ha<|Kl 0 13 (ln aa L)<|Mg 0<|ML (Nat×List PAct×List (Int×PStart)) [0,1,4,12,13,14] (xw gs L day p) (Hd gs L day p) (fun a=>a.2.1.length) (0,L,[]) (az<|xw gs L day p (0,L,[])) (et (rfl:List.drop 0 (L)=L) (by rfl:(kR L []=kR L []))) fun a b c=>let d:=some<|AObj.map (ba ay a.2.2 0) a.2.2.length;Mi (fun a b=>kR L []=kR a b) aa b (fun _ b c=>Kh 0 b<|Kp 0 hi<|Kl 2 27 (ln aq ds)<|Mg 0<|MM (Nat×List PDeed×Unit) (Nat×List PDeed×Nat×Nat×List PDeed) [1,4,7,26,27,28] (xk ds day p a) (Ha ds day p a) (Hc ds day p a) (Hb ds day p a) (fun a=>a.2.1.length) (fun a=>a.2.1.length) (.inl (0,ds,())) (az<|xk ds day p a (0,ds,())) (et (rfl:List.drop 0 (ds)=ds) (by(exact⟨rfl⟩):(OnA day p a.2.2 ds ds))) (fun b e f=>Mc b.2.1 (fun d=>have f:=eB e.1 d;have b:=gx (J:=fun b _=>OnA day p a.2.2 ds b) (a:=b.2.2) d e.2;Kh 0 f<|Mw .abs (by exact hE (by rw[show kR L []=a.2.2 from c];exact b.f):False)) fun c g h=>let i:=[aj [iV c.act,iV c.item,iV c.day,iV c.it.kind,aW<|c.it.at_.map ak,aW<|c.it.to.map ak,iV c.it.where_,iV c.it.nth_,iV c.it.unit.act,iV c.it.unit.item,iV c.it.unit.n,iV c.it.unit.kind,aV c.it.unit.label,aW<|c.it.unit.head.map aQ,aW<|c.it.unit.words.map aQ,aW<|c.it.unit.kids.map aY,aW<|c.it.old.map mT,aW<|c.it.new.map mT,aV c.it.label,aV c.it.for_,iV c.it.start.kind,iV c.it.start.day,aV c.it.start.event,iV c.it.act,iV c.it.item,iV c.it.day,aV c.it.event,aW<|c.it.by_.map Np]];let j:=aj [iV (aB a.2.2 c.act).kind,iV (aB a.2.2 c.act).day,aV (aB a.2.2 c.act).event];have k:=eT e.1 h;have:=aA k;have l:=eA (enc:=aq) e.1 h;have m:=cV (J:=fun b _=>OnA day p a.2.2 ds b) (a:=b.2.2) h e.2;Kt 0 k<|Mx l<|Kp 5 (jd c.it.kind)<|Mb (cC c.it.kind) (fun _=>Ms (Ca day p a.2.2 ds c) (fun d=>K1 4 (.look j) (hlk a.2.2 c.act)<|Kp 1 (gj (aB a.2.2 c.act) c ds<|by(omega))<|M3 (.efx false q8<|ab [aX 1 false 0 q5,aX 1 false 0 [aV p],aX 1 false 0 [aM 5 0 0 1 none],AObj.map (ba ay a.2.2 0) a.2.2.length,aX 28 false 0 i,aX 28 true 0 i]) (yz rt (tM a.2.2.length 5<|af (f:=ay) (fun _=>rfl) a.2.2 0) rt rt rt ti) ti (ZG day p a.2.2 ds c d)<|Kl 0 46 (dU b.1)<|K1 0 (.ren [0,1,2,3,5,4] [3] [1,4,7,26,27,28]) (tN a.2.2.length<|af (f:=ay) (fun _=>rfl) a.2.2 0)<|M1 (.frz 5 [1,4,7,26,27,28]) (yz rt (tM a.2.2.length 5<|af (f:=ay) (fun _=>rfl) a.2.2 0) rt rt rt ti)<|Mf<|f (.inr (b.1+1,g,(0,1,[c]))) (et (bW e.1 h) (by exact m.new (Ix (e.1.trans h)) (by assumption) (by assumption) rfl:(OnR day p a.2.2 ds g (0:Nat) (1:Nat) [c])))<|dh h) fun k=>K1 4 (.look j) (hlk a.2.2 c.act)<|Kp 1 (gj (aB a.2.2 c.act) c ds<|by(omega))<|M3 (.efx true q8<|ab [aX 1 false 0 q5,aX 1 false 0 [aV p],aX 1 false 0 [ah],AObj.map (ba ay a.2.2 0) a.2.2.length,aX 28 false 0 i]) (yz rt (tM a.2.2.length 5<|af (f:=ay) (fun _=>rfl) a.2.2 0) rt rt rt ti) (yz (az<|some<|aX 28 false 0 i) (az d) (az<|some<|aX 1 false 0 [ah]) (az q10) (az q11) ti) (ZH day p a.2.2 ds c k)<|Kl 0 46 (dU b.1)<|K1 0 (.frz 4 [1,4,7,26,27,28]) (xr (tM a.2.2.length 4<|af (f:=ay) (fun _=>rfl) a.2.2 0) rt rt rt ti)<|Mf<|f (.inl (b.1+1,g,())) (et (bW e.1 h) (by exact m.nil (by assumption):(OnA day p a.2.2 ds g)))<|dh h) fun _=>Kl 0 46 (dU b.1)<|K1 0 (.frz 4 [1,4,7,26,27,28]) (xr (tM a.2.2.length 4<|af (f:=ay) (fun _=>rfl) a.2.2 0) rt rt rt ti)<|Mf<|f (.inl (b.1+1,g,())) (et (bW e.1 h) (by exact m.no (by assumption):(OnA day p a.2.2 ds g)))<|dh h) fun b e f=>let g:=[aM 4 b.2.2.1 0 b.2.2.2.1 none];let h:=List.map aq b.2.2.2.2;Mc b.2.1 (fun d=>have f:=eB e.1 d;have d:=gx (J:=fun b c=>OnR day p a.2.2 ds b c.1 c.2.1 c.2.2) (a:=b.2.2) d e.2;Kh 0 f<|M2 (.ren [0,1,2,4,3] [4,3] []) (tS 28 true b.2.2.1<|aZ xU b.2.2.2.2) (tN a.2.2.length<|af (f:=ay) (fun _=>rfl) a.2.2 0)<|M1 (.frz 4 []) (xr (tR 28 true b.2.2.1 4<|aZ xU b.2.2.2.2) rt rt rt ti)<|Mf<|et (az q8) (by(have q:=d.done;rw[show kR L []=a.2.2 from c,q.1,q.2.1,q.2.2]):(ab [AObj.row 1 false 0 [iV day],AObj.row 1 false 0 [AV.str p],AObj.row 1 false 0 [AV.slice 3 b.2.2.1 0 b.2.2.2.1 none],AObj.row 28 true b.2.2.1 (b.2.2.2.2.map aq)])=(ab [iH day,gH p,pE 3 ((sX day p (kR L []) ds ds).length -1) (sX day p (kR L []) ds ds).length,pB ((sX day p (kR L []) ds ds).length -1) (sX day p (kR L []) ds ds)]))) fun c i j=>let k:=[aj [iV c.act,iV c.item,iV c.day,iV c.it.kind,aW<|c.it.at_.map ak,aW<|c.it.to.map ak,iV c.it.where_,iV c.it.nth_,iV c.it.unit.act,iV c.it.unit.item,iV c.it.unit.n,iV c.it.unit.kind,aV c.it.unit.label,aW<|c.it.unit.head.map aQ,aW<|c.it.unit.words.map aQ,aW<|c.it.unit.kids.map aY,aW<|c.it.old.map mT,aW<|c.it.new.map mT,aV c.it.label,aV c.it.for_,iV c.it.start.kind,iV c.it.start.day,aV c.it.start.event,iV c.it.act,iV c.it.item,iV c.it.day,aV c.it.event,aW<|c.it.by_.map Np]];let l:=aj [iV (aB a.2.2 c.act).kind,iV (aB a.2.2 c.act).day,aV (aB a.2.2 c.act).event];have m:=eT e.1 j;have:=aA m;have n:=eA (enc:=aq) e.1 j;have o:=cV (J:=fun b c=>OnR day p a.2.2 ds b c.1 c.2.1 c.2.2) (a:=b.2.2) j e.2;Kt 0 m<|Mx n<|Kp 5 (jd c.it.kind)<|Mb (cC c.it.kind) (fun _=>Ms (Ca day p a.2.2 ds c) (fun d=>K1 4 (.look l) (hlk a.2.2 c.act)<|Kp 1 (gj (aB a.2.2 c.act) c ds<|by(omega))<|M3 (.efx false q8<|ab [aX 1 false 0 q5,aX 1 false 0 [aV p],aX 1 false 0 [aM 4 (b.2.2.1+1) 0 (b.2.2.2.1+1) none],AObj.map (ba ay a.2.2 0) a.2.2.length,aX 28 true (b.2.2.1+1)<|(b.2.2.2.2++[c]).map aq,aX 28 false 0 k]) (Ni rt (tR 28 true b.2.2.1 6<|aZ xU b.2.2.2.2) (tM a.2.2.length 6<|af (f:=ay) (fun _=>rfl) a.2.2 0) rt rt rt ti) ti (ZE day p a.2.2 ds c b.2.2.1 b.2.2.2.1 b.2.2.2.2 d (by exact o.len)<|by(have z:=o.small;have z2:=o.len;simp only[lC]at z;omega))<|Kl 0 46 (dU b.1)<|K1 0 (.frz 5 [1,4,7,26,27,28]) (yz (tR 28 true (b.2.2.1+1) 5<|aZ xU<|b.2.2.2.2++[c]) (tM a.2.2.length 5<|af (f:=ay) (fun _=>rfl) a.2.2 0) rt rt rt ti)<|Mf<|f (.inr (b.1+1,i,(b.2.2.1+1,b.2.2.2.1+1,b.2.2.2.2++[c]))) (et (bW e.1 j) (by exact o.new (by assumption) (by assumption) rfl:(OnR day p a.2.2 ds i (b.2.2.1+1) (b.2.2.2.1+1) (b.2.2.2.2++[c]))))<|dh j) fun m=>K1 4 (.look l) (hlk a.2.2 c.act)<|Kp 1 (gj (aB a.2.2 c.act) c ds<|by(omega))<|M3 (.efx true q8<|ab [aX 1 false 0 q5,aX 1 false 0 [aV p],aX 1 false 0 g,AObj.map (ba ay a.2.2 0) a.2.2.length,aX 28 true b.2.2.1 h,aX 28 false 0 k]) (Ni rt (tR 28 true b.2.2.1 6<|aZ xU b.2.2.2.2) (tM a.2.2.length 6<|af (f:=ay) (fun _=>rfl) a.2.2 0) rt rt rt ti) (Ni (az<|some<|aX 28 false 0 k) (az<|some<|aX 28 true b.2.2.1 h) (az d) (az<|some<|aX 1 false 0 g) (az q10) (az q11) ti) (ZF day p a.2.2 ds c b.2.2.1 b.2.2.2.1 b.2.2.2.2 m)<|Kl 0 46 (dU b.1)<|K1 0 (.frz 5 [1,4,7,26,27,28]) (yz (tR 28 true b.2.2.1 5<|aZ xU b.2.2.2.2) (tM a.2.2.length 5<|af (f:=ay) (fun _=>rfl) a.2.2 0) rt rt rt ti)<|Mf<|f (.inr (b.1+1,i,(b.2.2.1,b.2.2.2.1,b.2.2.2.2))) (et (bW e.1 j) (by exact o.nil (by assumption):(OnR day p a.2.2 ds i b.2.2.1 b.2.2.2.1 b.2.2.2.2)))<|dh j) fun _=>Kl 0 46 (dU b.1)<|K1 0 (.frz 5 [1,4,7,26,27,28]) (yz (tR 28 true b.2.2.1 5<|aZ xU b.2.2.2.2) (tM a.2.2.length 5<|af (f:=ay) (fun _=>rfl) a.2.2 0) rt rt rt ti)<|Mf<|f (.inr (b.1+1,i,(b.2.2.1,b.2.2.2.1,b.2.2.2.2))) (et (bW e.1 j) (by exact o.no (by assumption):(OnR day p a.2.2 ds i b.2.2.1 b.2.2.2.1 b.2.2.2.2)))<|dh j) fun d e f g _ h i=>Kt 0 g<|Mx h<|K1 7 (.upd (ba ay (g9 d.number d.start a.2.2) 0) (g9 d.number d.start a.2.2).length) (hup a.2.2 d)<|Kl 0 23 (dU a.1)<|K1 0 (.frz 4 [0,1,4,12,13,14]) (xr (tM (g9 d.number d.start a.2.2).length 4<|af (f:=ay) (fun _=>rfl) (g9 d.number d.start a.2.2) 0) rt rt rt ti)<|Mf<|c (a.1+1,e,g9 d.number d.start a.2.2) (et (bW b.1 f) (by exact i:(kR L []=kR e (g9 d.number d.start a.2.2))))<|dh f
/-- What is in force on a day for a purpose. -/
noncomputable def Za(day:Int)(p:aP)(L:List PAct)(ds:List PDeed):List PDeed:=sX day p (kR L []) ds ds
theorem Yy(gs:List PGaz)(day:Int)(p:aP)(hc:kD 47 [.ls (gs.map aK),.func (.func 48) [] [.ptr 1 0 0 0,.ptr 0 0 0 0,.ptr 2 0 0 0]] (ab [iH day,gH p,qf]) (.tuple []) (ab [iH day,gH p,qf])):kP 26 [iV day,.str p,.ls (gs.map aK)] (.ls (([]:List PDeed).map aq)):=by
  exact bD Tryz.func26<|Ke 5 hc<|Kf 1 bN
theorem Yv(gs:List PGaz)(day:Int)(p:aP)(X:List PDeed)(k:Nat)(hz:0<X.length)(hb:X.length<2^40)(hc:kD 47 [.ls (gs.map aK),.func (.func 48) [] [.ptr 1 0 0 0,.ptr 0 0 0 0,.ptr 2 0 0 0]] (ab [iH day,gH p,qf]) (.tuple []) (ab [iH day,gH p,pE 3 k X.length,pB k X])):kP 26 [iV day,.str p,.ls (gs.map aK)] (.ls (X.map aq)):=by
  let q:=List.map aq X;exact bD Tryz.func26<|Ke 5 hc<|Mg 1<|M2 (.fsl 0 [] 6 q) ti (cZ (az k) (tA aq X X.length rfl)<|aZ xU X)<|Ml 6 (eX q false<|aZ xU X)<|Mf<|bZ<|aW q
theorem Ya(gs:List PGaz)(L:List PAct)(ds:List PDeed)(day:Int)(p:aP)(hL:L.length<10000)(hd:ds.length<100000)(ha:kP 67 [.ls (gs.map aK)] (.ls (L.map aa)))(hi:kP 68 [.ls (gs.map aK)] (.ls (ds.map aq))):kP 26 [iV day,.str p,.ls (gs.map aK)] (.ls ((Za day p L ds).map aq)):=by
  by_cases hE:Za day p L ds=[]
  · rw[hE];exact Yy gs day p (Xz gs L ds day p hL hd ha hi hE)
  · have hl:(Za day p L ds).length≤ds.length:=List.length_filter_le ..
    exact Yv gs day p _ _ (pS.2 hE) (by omega) (Xq gs L ds day p hL hd ha hi hE)
/-- The book with nothing in it. -/
def vR:TUnit:=⟨0,0,0,0,[],[],[],[]⟩
theorem RY:OkB vR:=⟨by decide,by decide,fun x hx=>by
  have e:x=vR:=by simpa[vR,bp,dt]using hx
  subst e;exact⟨bM _,bM _⟩⟩
theorem Xo(X:List PDeed)(hl:X.length<2^30)(ho:∀d,d∈X→yZ d.it):kP 59 [zU,.ls (X.map aq)] (.tuple [eU (dg vR X),.ls ((fc vR X).map ic)]):=
  (R4 vR X RY hl ho).args (.cons (wV _ _ (by kernel_rfl)).1 (.cons (Le.refl _) .nil))
theorem Rd(X:List PDeed)(hl:X.length<2^30)(ho:∀d,d∈X→yZ d.it):kP 37 [.ls (X.map aq)] (.tuple [eU (dg vR X),.ls ((fc vR X).map ic)]):=by
  have h:=Xo X hl ho
  exact bD Tryz.func37<|Kp 3 h<|Kf 3<|bZ<|eb [aj [iV (dg vR X).act,iV (dg vR X).item,iV (dg vR X).n,iV (dg vR X).kind,aV (dg vR X).label,aW<|List.map aQ (dg vR X).head,aW<|List.map aQ (dg vR X).words,aW<|List.map aY (dg vR X).kids],aW<|(fc vR X).map ic]
theorem Ut(gs:List PGaz)(day:Int)(p:aP)(X:List PDeed)(hon:kP 26 [iV day,.str p,.ls (gs.map aK)] (.ls (X.map aq))):kP 36 [iV day,.str p,.ls (gs.map aK)] (.ls (X.map aq)):=by
  exact bD Tryz.func36<|Kp 3 hon<|Kf 0<|bZ<|aW<|X.map aq
theorem RC(gs:List PGaz)(day:Int)(p:aP)(X:List PDeed)(hl:X.length<2^30)(ho:∀d,d∈X→yZ d.it)(hon:kP 26 [iV day,.str p,.ls (gs.map aK)] (.ls (X.map aq))):kP 14 [iV day,.str p,.ls (gs.map aK)] (eU (dg vR X)):=by
  have h1:=Ut gs day p X hon
  have h2:=Rd X hl ho
  exact bD Tryz.func14<|Kp 3 h1<|Mp h2<|Kf 7<|bZ<|aj [iV (dg vR X).act,iV (dg vR X).item,iV (dg vR X).n,iV (dg vR X).kind,aV (dg vR X).label,aW<|List.map aQ (dg vR X).head,aW<|List.map aQ (dg vR X).words,aW<|List.map aY (dg vR X).kids]
theorem PK(l m:List PWord)(hl:l.length<2^60)(hm:m.length<2^60):kP 42 [.ls (l.map aQ),.ls (m.map aQ)] (.bool (cJ Bz l m)):=by
  have rr0 b' (h:(cJ Bz l m)=b':=by first|exact mS fZ hj0|exact lx fZ|(rw[ib zD0 hr0 fZ hj0];simp only[Bz,aS,aw,bS, *];first|done|rfl)):=h;exact bD Tryz.func42<|Kl 2 7 (ln aQ l)<|Kl 1 9 (ln aQ m)<|Kc 0 (Int.ofNat l.length) (Int.ofNat m.length) (fun _ _=>Ky 0<|rr0 false) fun _ _=>Mg 0<|tJ aQ l [0,1,5] (fun a _=>([aW<|l.map aQ,aW<|m.map aQ,nV a],[])) (fun a=>cJ Bz l m=cJ Bz a (m.drop<|l.length-a.length)) (by(exact Af)) (fun _ _ zD0 _ hr0 a hj0=>Kl 2 13 (ln aQ l)<|Kh 0 a<|Ky 0<|rr0 true) fun a _ zD0 _ b c d hr0 e _ f hj0=>Kl 2 13 (ln aQ l)<|Kt 0 e<|Kx 1 f<|Kx 2 (bK aQ (by(simp only[oN,lM,lS]at *;omega):a<(m).length))<|Kv 0 (u9 (d:=(Tryz.prog).underlying 102) (n:=4) (l:=(0,2)::(1,1)::(2,1)::(3,1)::[]) (xs:=[aV b.text,iV b.act,iV b.item,iV b.at_]) (ys:=[aV (gD m a).text,iV (gD m a).act,iV (gD m a).item,iV (gD m a).at_]) (H:=AHeap.mk 1000000 Tr.nil) rfl<|mO (e:=eZ b.text (gD m a).text) rfl rfl rfl<|mO (e:=al b.act (gD m a).act) rfl rfl rfl<|mO (e:=al b.item (gD m a).item) rfl rfl rfl<|Ae (e:=al b.at_ (gD m a).at_) rfl rfl rfl rfl)<|Mn (eZ b.text (gD m a).text &&(al b.act (gD m a).act &&(al b.item (gD m a).item &&al b.at_ (gD m a).at_))) (fun _=>Kf 0<|cn<|rr0 false) fun _=>Kl 1 16 (dU a)<|Kf 0<|d<|by(rw[ib zD0 hr0 (by(simp only[oN]at *;omega)) hj0];simp only[Bz,aS,aw,bS, *];first|done|rfl)
theorem V3:∀(u:TUnit),pY u→∀v,pY v→kP 20 [eU u,eU v] (.bool (yx u v)):=by
  refine TUnit.ind fun u ih hu v hv=>?_
  obtain⟨u1,u2,u3,u4⟩:=lq.1 hu
  obtain⟨v1,v2,v3,v4⟩:=lq.1 hv
  have hh:=PK u.head v.head u1 v1
  have hw:=PK u.words v.words u2 v2
  have hk:∀a,a∈u.kids→∀b,b∈v.kids→kP 20 [eU a,eU b] (.bool (yx a b)):=fun a ha b hb=>ih a ha (u4 a ha) b (v4 b hb)
  have rr0 b' (h:(yx u v)=b':=by(rw[JJ];first|(rw[mS (by(simp only[oN]at *;omega)) hj0];simp only[bg,bq,bV,aS,aw,bS, *];done)|(rw[show cJ yx u.kids v.kids=false from lx (by(simp only[oN]at *;omega))];simp only[bg,bq,bV,aS,aw,bS, *];done)|(rw[ib zD0 hr0 (by(simp only[oN]at *;omega)) hj0];simp only[bg,bq,bV,aS,aw,bS, *];done)|(simp only[bg,bq,bV,aS,aw,bS, *];first|done|rfl))):=h;exact bD Tryz.func20<|Kv 6 (DE ((Tryz.prog).underlying 34) u.act u.item u.n v.act v.item v.n<|ab [aX 8 false 0 [aj [iV u.act,iV u.item,iV u.n,iV u.kind,aV u.label,aW<|u.head.map aQ,aW<|u.words.map aQ,aW<|u.kids.map aY]],aX 8 false 0 [aj [iV v.act,iV v.item,iV v.n,iV v.kind,aV v.label,aW<|v.head.map aQ,aW<|v.words.map aQ,aW<|v.kids.map aY]]])<|Kn 0 (al u.act v.act&&(al u.item v.item&&al u.n v.n)) (fun c=>Mt (bF c)<|Mt (bF c)<|Mt (bF c)<|Mt (bF c)<|MV (bF c)<|Ky 9<|rr0 false) fun c=>Kh 0 (bB c)<|Kh 0 (bB c)<|Kh 0 (bB c)<|Kh 0 (bB c)<|Kw 0 (bB c)<|Kc 0 u.kind v.kind (fun c _=>Mt (bF c)<|Mt (bF c)<|Mt (bF c)<|Mt (bF c)<|MV (bF c)<|Ky 7<|rr0 false) fun c _=>Kh 0 (bB c)<|Kh 0 (bB c)<|Kh 0 (bB c)<|Kh 0 (bB c)<|Kw 0 (bB c)<|Kn 0 (eZ u.label v.label) (fun c=>Mt (bF c)<|Mt (bF c)<|Mt (bF c)<|Mt (bF c)<|Mt (bF c)<|MV (bF c)<|Ky 5<|rr0 false) fun c=>Kh 0 (bB c)<|Kh 0 (bB c)<|Kh 0 (bB c)<|Kh 0 (bB c)<|Mp hh<|Mh (bB c)<|Kw 0 (bB c)<|Kn 0 (cJ Bz u.head v.head) (fun c=>Mt (bF c)<|Mt (bF c)<|Mt (bF c)<|Mt (bF c)<|Mt (bF c)<|MV (bF c)<|Ky 3<|rr0 false) fun c=>Kh 0 (bB c)<|Kh 0 (bB c)<|Kh 0 (bB c)<|Kh 0 (bB c)<|Mp hw<|Mh (bB c)<|Kw 0 (bB c)<|Kn 0 (cJ Bz u.words v.words) (fun c=>Mt (bF c)<|Mt (bF c)<|Mt (bF c)<|Mt (bF c)<|Mt (bF c)<|Mt (bF c)<|MV (bF c)<|Ky 1<|rr0 false) fun c=>Kh 0 (bB c)<|Kh 0 (bB c)<|Kl 0 44 (ln aY u.kids)<|Mh (bB c)<|Kh 0 (bB c)<|Kh 0 (bB c)<|Kl 0 47 (ln aY v.kids)<|Mh (bB c)<|Kw 0 (bB c)<|Mn (al (Int.ofNat u.kids.length)<|Int.ofNat v.kids.length) (fun c=>have:=GT c;Ky 0<|rr0 false) fun c=>have:=jy c;Mg 0<|tJ aY u.kids [2,3,5] (fun c _=>([bz 0 0 0 0,bz 1 0 0 0,nV c],[aX 8 false 0 [aj [iV u.act,iV u.item,iV u.n,iV u.kind,aV u.label,aW<|u.head.map aQ,aW<|u.words.map aQ,aW<|u.kids.map aY]],aX 8 false 0 [aj [iV v.act,iV v.item,iV v.n,iV v.kind,aV v.label,aW<|v.head.map aQ,aW<|v.words.map aQ,aW<|v.kids.map aY]]])) (fun c=>cJ yx u.kids v.kids=cJ yx c (v.kids.drop<|u.kids.length-c.length)) (by(exact Af)) (fun _ _ zD0 _ hr0 c hj0=>Kl 3 53 (ln aY u.kids)<|Kh 0 c<|Ky 0<|rr0 true) fun c _ zD0 _ d e f hr0 g _ i hj0=>have i:=i.trans<|congrArg some<|aO d;Kl 3 53 (ln aY u.kids)<|Kt 0 g<|Kx 2 i<|Kx 3 ((bK aY (by(simp only[oN,lM,lS]at *;omega):c<(v.kids).length)).trans<|congrArg some<|aO _)<|Kp 0 (hk d (by exact bQ zD0 hr0) (gD v.kids c)<|by exact iC (by(simp only[oN]at *;omega)))<|Kn 0 (yx d<|gD v.kids c) (fun _=>Kf 0<|cn<|rr0 false) fun _=>Kl 1 56 (dU c)<|Kf 0<|f<|by(rw[ib zD0 hr0 (by(simp only[oN]at *;omega)) hj0];simp only[aS,aw,bS, *];first|done|rfl)
theorem PX(u:TUnit)(h:OkB u):kP 20 [eU u,eU u] (.bool true):=by
  have z:=V3 u (tP h) u (tP h)
  rwa[(Uw u u).2 rfl]at z
/-- What the bound on gazettes tells. -/
structure OkG(gs:List PGaz):Prop where
  fit:ni gs
  len:gs.length≤9
  acts:∀g,g∈gs→g.acts.length≤20
  items:∀g,g∈gs→∀a,a∈g.acts→a.items.length≤40∧∀x,x∈a.items→mN x=true
theorem GI{most:Int}:∀(l:List PAct)(n m:Int),most=24→0≤n→lO most l n=some m→0≤m∧∀a,a∈l→a.items.length≤24∧∀x,x∈a.items→mN x=true
  |[],n,m,_,hn,h=>by simp only[lO,xf]at h;exact⟨h▸hn,fun a ha=>by cases ha⟩
  | b::r,n,m,hm,hn,h=>by
    unfold lO at h
    cases hb:BW most n b with
    |true=>rw[hb]at h;cases h
    | false=>
      rw[hb]at h
      unfold BW at hb
      simp only[BM]at hb
      obtain⟨z1,_,_,z2⟩:=hb
      have z1:=aG z1
      obtain⟨q1,q2⟩:=GI r (n+Int.ofNat b.items.length) m hm (by simp only[oN]at *;omega) h
      refine⟨q1,fun a ha=>?_⟩
      rcases fD.1 ha with rfl|ha
      · refine⟨by simp only[oN]at *;omega,fun x hx=>?_⟩
        have z3:=qc z2
        exact md.1 z3 x hx
      · exact q2 a ha
theorem LU:∀(l:List PGaz)(n:Int),0≤n→uc 24 l n=true→∀g,g∈l→g.acts.length≤8∧∀a,a∈g.acts→a.items.length≤24∧∀x,x∈a.items→mN x=true
  |[],_,_,_,g,hg=>by cases hg
  | x::r,n,hn,h,g,hg=>by
    unfold uc at h
    cases hb:vM x with
    |true=>rw[hb]at h;cases h
    | false=>
      rw[hb]at h
      cases ha:lO 24 x.acts n with
      |none=>rw[ha]at h;cases h
      | some m=>
        rw[ha]at h
        obtain⟨q1,q2⟩:=GI x.acts n m rfl hn ha
        rcases fD.1 hg with rfl|hg
        · unfold vM at hb
          have:=aG (BM.1 hb).1
          exact⟨by simp only[oN]at *;omega,q2⟩
        · exact LU r m q1 h g hg
theorem WK{gs:List PGaz}{p:aP}(hf:ni gs)(h:I8 gs p=true):OkG gs∧gs.length≤8:=by
  unfold I8 at h
  have h1:=(pN.1 h).1
  unfold Nf at h1
  cases hb:aF 8 (Int.ofNat gs.length)with
  |true=>rw[hb]at h1;cases h1
  | false=>
    rw[hb]at h1
    have:=aG hb
    have hl:gs.length≤8:=by simp only[oN]at *;omega
    have q:=LU gs 0 (by omega) h1
    exact⟨⟨hf,by omega,fun g hg=>b0 (q g hg).1 (by decide),fun g hg a ha=>⟨b0 ((q g hg).2 a ha).1 (by decide),((q g hg).2 a ha).2⟩⟩,hl⟩
theorem OkG.sub{gs hs:List PGaz}(h:OkG gs)(hl:hs.length≤9)(hm:∀g,g∈hs→g∈gs):OkG hs:=
  ⟨⟨by omega,fun g hg=>h.fit.2 g (hm g hg)⟩,hl,fun g hg=>h.acts g (hm g hg),fun g hg=>h.items g (hm g hg)⟩
theorem CZ:∀(ys out:List PAct),(ys.foldl j6 out).length≤out.length+ys.length
  |[],out=>ao _
  | a::r,out=>by
    have:=CZ r (j6 out a);have:=(OL out a).2
    simp only[me,lC];omega
theorem Aw:∀(gs:List PGaz),(∀g,g∈gs→g.acts.length≤20)→∀out,(bU gs out).length≤out.length+20*gs.length
  |[],_,out=>ao _
  | g::r,hb,out=>by
    have:=Aw r (fun x hx=>hb x (fJ _ hx)) (g.acts.foldl j6 out)
    have:=CZ g.acts out
    have:=hb g (fW ..)
    simp only[bU,me,lC]at *
    omega
theorem OI{out:List PAct}{a b:PAct}(h:b∈j6 out a):b∈out∨b=a:=by
  unfold j6 at h
  split at h
  · exact .inl h
  · rcases ie.1 h with h|h
    · exact .inl h
    · exact .inr (pR.1 h)
theorem CQ:∀(ys out:List PAct)(b:PAct),b∈ys.foldl j6 out→b∈out∨b∈ys
  |[],out,b,h=>.inl h
  | a::r,out,b,h=>by
    rcases CQ r (j6 out a) b h with h|h
    · rcases OI h with h|rfl
      · exact .inl h
      · exact .inr (fW ..)
    · exact .inr (fJ _ h)
theorem Ak:∀(gs:List PGaz)(out:List PAct)(b:PAct),b∈bU gs out→b∈out∨∃g,g∈gs∧b∈g.acts
  |[],out,b,h=>.inl h
  | g::r,out,b,h=>by
    rcases Ak r (g.acts.foldl j6 out) b h with h|⟨g2,q1,q2⟩
    · rcases CQ g.acts out b h with h|h
      · exact .inl h
      · exact .inr ⟨g,fW ..,h⟩
    · exact .inr ⟨g2,fJ _ q1,q2⟩
theorem uT:∀(l:List PAct),(∀a,a∈l→a.items.length≤40)→(m9 l).length≤40*l.length
  |[],_=>ao _
  | a::r,h=>by
    have:=uT r fun b hb=>h b (fJ _ hb)
    have:=h a (fW ..)
    simp only[m9,List.flatMap_cons,lA,lw,lC]at *
    omega
theorem OkG.act{gs:List PGaz}(h:OkG gs){a:PAct}(ha:a∈gF gs):a.items.length≤40∧(∀x,x∈a.items→mN x=true)∧QS a:=by
  have ha:=(pc gs).mem_iff.1 ha
  rcases Ak gs [] a ha with q|⟨g,h1,h2⟩
  · cases q
  · exact⟨(h.items g h1 a h2).1,(h.items g h1 a h2).2,(h.fit.2 g h1).2 a h2⟩
/-- The items as they stand. -/
noncomputable def pw(gs:List PGaz):List PDeed:=bT (aE (gF gs) []) (gF gs)
theorem OkG.lens{gs:List PGaz}(h:OkG gs):(gF gs).length≤180∧(pw gs).length≤7200:=by
  have h1:=Aw gs h.acts []
  have h2:=(pc gs).length_eq
  have h3:=uT (gF gs) fun a ha=>(h.act ha).1
  have h4:=h.len
  have h5:(pw gs).length=(m9 (gF gs)).length:=bG ..
  simp only[lN]at h1
  omega
theorem OkG.all{gs:List PGaz}(h:OkG gs):kP 67 [.ls (gs.map aK)] (.ls ((gF gs).map aa))∧kP 68 [.ls (gs.map aK)] (.ls ((pw gs).map aq)):=by
  have h1:=h.lens
  have h2:=(pc gs).length_eq
  have h3:(pw gs).length=(m9 (gF gs)).length:=bG ..
  have h4:=h.len
  exact⟨LB gs h.fit (fun g hg=>l0 (h.acts g hg) (by decide)) (by omega) (by omega),Qz gs h.fit (fun g hg=>l0 (h.acts g hg) (by decide)) (by omega) (by omega) (fun a ha=>l0 (h.act ha).1 (by decide)) (by omega)⟩
theorem Xb{x y:PItem}(h:mN x=true)(hy:y∈x.by_):mN y=true:=by
  rw[EJ]at h
  simp only[bx]at h
  have:=md.1 h.2.2.2.2.2 y hy
  unfold Hg at this
  exact(pN.1 this).2
theorem Xa{x y:PItem}(h:nW x)(hy:y∈x.by_):nW y:=(qr.1 h).2.2.2.2.2.2 y hy
theorem Fy{K V:Type}{keq:K→K→Bool}{k:K}{v:V}:∀{l:List (K×V)}{e:K×V},e∈fE keq k v l→e∈l∨e.2=v
  | [],e,h=>by
    rw[fE,pR]at h;exact .inr (by rw[h])
  | (j,u)::r,e,h=>by
    rw[fE]at h
    cases q:keq k j with
    | true=>
      rw[q]at h
      rcases fD.1 h with h|h
      · exact .inr (by rw[h])
      · exact .inl (fJ _ h)
    | false=>
      rw[q]at h
      rcases fD.1 h with h|h
      · exact .inl (by rw[h];exact fW ..)
      · rcases Fy (l:=r) h with h|h
        · exact .inl (fJ _ h)
        · exact .inr h
theorem Gl{K V:Type}{keq:K→K→Bool}{k:K}{v:V}:∀{l:List (K×V)},nP keq k l=some v→∃e,e∈l∧e.2=v
  |[],h=>by cases h
  | (j,u)::r,h=>by
    rw[nP]at h
    cases q:keq k j with
    |true=>rw[q]at h;exact⟨(j,u),fW ..,Jr h⟩
    | false=>
      rw[q]at h
      obtain⟨e,h1,h2⟩:=Gl (l:=r) h
      exact⟨e,fJ _ h1,h2⟩
theorem Nu{m:List ((Int×Int)×PItem)}{x:PItem}(hm:∀e,e∈m→yZ e.2)(h1:mN x=true)(h2:nW x):∀e,e∈js m x→yZ e.2:=by
  unfold js
  split
  · rename_i h
    simp only[bx]at h
    have hl:=aA h.1.2
    have hy:gD x.by_ 0∈x.by_:=iC (by simp only[oN]at hl;omega)
    intro e he
    rcases Fy he with q|q
    · exact hm e q
    · rw[q];exact PH (Xa h2 hy) (Xb h1 hy)
  · exact hm
theorem C3:∀(xs:List PItem)(m:List ((Int×Int)×PItem)),(∀e,e∈m→yZ e.2)→(∀x,x∈xs→mN x=true∧nW x)→∀e,e∈xs.foldl js m→yZ e.2
  |[],_,hm,_=>hm
  |x::r,m,hm,h=>C3 r (js m x) (Nu hm (h x (fW ..)).1 (h x (fW ..)).2) fun y hy=>h y (fJ _ hy)
theorem C2:∀(l:List PAct)(m:List ((Int×Int)×PItem)),(∀e,e∈m→yZ e.2)→(∀a,a∈l→∀x,x∈a.items→mN x=true∧nW x)→∀e,e∈aE l m→yZ e.2
  |[],_,hm,_=>hm
  |a::r,m,hm,h=>C2 r (a.items.foldl js m) (C3 a.items m hm (h a (fW ..))) fun b hb=>h b (fJ _ hb)
theorem Ap(a:PAct):∀(l:List PItem)(i:Nat)(d:PDeed),d∈cq a l i→d.it∈l
  |[],_,d,h=>by cases h
  | x::r,i,d,h=>by
    rcases fD.1 h with rfl|h
    · exact fW ..
    · exact fJ _ (Ap a r _ d h)
theorem OkG.deed{gs:List PGaz}(h:OkG gs){d:PDeed}(hd:d∈pw gs):yZ d.it:=by
  have hi:∀a,a∈gF gs→∀x,x∈a.items→mN x=true∧nW x:=fun a ha x hx=>⟨(h.act ha).2.1 x hx,(h.act ha).2.2.2 x hx⟩
  obtain⟨o,ho,rfl⟩:=ka.1 hd
  obtain⟨a,ha,hoa⟩:=List.mem_flatMap.1 ho
  have h1:=hi a ha _ (Ap a _ _ _ hoa)
  have h2:yZ o.it:=PH h1.2 h1.1
  unfold nX
  split
  · rename_i hc
    have hc:=(pN.1 hc).1
    unfold qn at hc
    show yZ (H2 (aE (gF gs) []) o)
    unfold H2
    cases q:nP pq (o.act,o.item) (aE (gF gs) [])with
    |none=>rw[q]at hc;cases hc
    | some v=>
      obtain⟨e,e1,e2⟩:=Gl q
      have:=C2 (gF gs) [] (fun e he=>by cases he) hi e e1
      rw[e2]at this
      exact this
  · exact h2
/-- What is in force. -/
noncomputable def Az(day:Int)(p:aP)(gs:List PGaz):List PDeed:=Za day p (gF gs) (pw gs)
noncomputable def lf(day:Int)(p:aP)(gs:List PGaz):TUnit:=dg vR (Az day p gs)
theorem OkG.force{gs:List PGaz}(h:OkG gs)(day:Int)(p:aP):(Az day p gs).length<2^30∧(∀d,d∈Az day p gs→yZ d.it)∧kP 26 [iV day,.str p,.ls (gs.map aK)] (.ls ((Az day p gs).map aq)):=by
  have hl:=h.lens
  have h1:(Az day p gs).length≤(pw gs).length:=List.length_filter_le ..
  exact⟨by omega,fun d hd=>h.deed (List.mem_filter.1 hd).1,Ya gs _ _ day p (by omega) (by omega) h.all.1 h.all.2⟩
theorem OkG.book{gs:List PGaz}(h:OkG gs)(day:Int)(p:aP):kP 14 [iV day,.str p,.ls (gs.map aK)] (eU (lf day p gs)):=
  RC gs day p _ (h.force day p).1 (h.force day p).2.1 (h.force day p).2.2
theorem OkG.okB{gs:List PGaz}(h:OkG gs)(day:Int)(p:aP):OkB (lf day p gs):=Hl RY (h.force day p).2.1
end Go.Proofs.YtaepacpodblomaaGreatDoor
