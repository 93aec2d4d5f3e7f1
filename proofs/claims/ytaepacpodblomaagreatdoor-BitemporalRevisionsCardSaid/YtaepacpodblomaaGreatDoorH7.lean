/- Functions walked: what each of them answers, for A day is among the changed days of a gazette exactly if the book differs before and after it, and revisions and retroactive days are consistent: part 7. Conditions: those that each theorem names. -/
import Derived.Test.YtaepacpodblomaaGreatDoorH6
namespace Go.Proofs.YtaepacpodblomaaGreatDoor
open Go Go.Ev
noncomputable abbrev mG(ep:Nat)(out:List Int):AObj:=.row 1 true ep (out.map ak)
theorem qg:kP 46 [.nils] (.ls ((fj []).map aJ)):=(gQ [] (by simp)).onArgs (.cons Le.nils .nil)
theorem DD{g:Int→Bool}{K:List Int}{x e:Nat}{S:List PSpan}(h:S=dg g (K.drop (x-1)))(h1:1≤x)(h2:x<K.length)(hg:g (gD K (x-1))=true)(he:e=x+1):S=⟨gD K (x-1),gD K x⟩::dg g (K.drop (e-1)):=by rw[h,Ch h1 h2,hg,he]
theorem DE{g:Int→Bool}{K:List Int}{x e:Nat}{S:List PSpan}(h:S=dg g (K.drop (x-1)))(h1:1≤x)(h2:x<K.length)(hg:g (gD K (x-1))=false)(he:e=x+1):S=dg g (K.drop (e-1)):=by rw[h,Ch h1 h2,hg,he]
theorem Y7:am (bX (pU []))=[]:=rR (by have z:=AM [];exact Nat.le_zero.1 z)
theorem Xm{A B x y:List PSpan}(h1:A=x)(h2:B=y):x++y=A++B:=by rw[h1,h2]
theorem SZ{A B x:List PSpan}(h1:A=x)(h2:B=[]):x=A++B:=by rw[h1,h2,dG]
theorem V0{A B y:List PSpan}(h1:A=[])(h2:B=y):y=A++B:=by rw[h1,h2];rfl
theorem T4{A r:List PSpan}{w:PSpan}(h:A=w::r)(hl:A.length≤1048577):r.length<2^30:=by rw[h,lC]at hl;omega
theorem TQ{A B:List PSpan}{w v:PSpan}{r s:List PSpan}(h:A=w::r)(k:B=v::s)(hl:A.length≤1048577)(kl:B.length≤1048577):small (r.length+1+((v::s).map aJ).length) 16=true:=by
  rw[h,lC]at hl;rw[k,lC]at kl
  rw[lM,lC];refine cK (m:=2^31) ?_ ?_ ?_<;>omega
theorem KK{B:List PSpan}{v:PSpan}{s:List PSpan}(k:B=v::s)(kl:B.length≤1048577):small ((v::s).map aJ).length 16=true:=by
  rw[k,lC]at kl
  rw[lM,lC];refine cK (m:=2^31) ?_ ?_ ?_<;>omega
def SV(F:Nat)(A:List PSpan)(B:List PSpan)(z20:List PSpan):Prop:=z20=A++B
noncomputable def SK(F:Nat)(A:List PSpan)(B:List PSpan)(z20:List PSpan):List AV×List AObj:=([AV.ls (A.map aJ),AV.ls (B.map aJ),AV.func (Fn.func F) [] [],AV.nils,AV.ls (z20.map aJ),nV z20.length,iV 0],[])
def Ow(F:Nat)(A:List PSpan)(B:List PSpan)(z20:List PSpan)(z37:List Int):Prop:=z37=iy z20
noncomputable def Oj(F:Nat)(A:List PSpan)(B:List PSpan)(z20:List PSpan)(z37:List Int):List AV×List AObj:=([AV.ls (A.map aJ),AV.ls (B.map aJ),AV.func (Fn.func F) [] [],AV.ls (z37.map ak)],[])
def Ox(F:Nat)(A:List PSpan)(B:List PSpan)(z20:List PSpan)(z37:List Int):Prop:=z37=iy z20
noncomputable def Oz(F:Nat)(A:List PSpan)(B:List PSpan)(z20:List PSpan)(z37:List Int):List AV×List AObj:=([AV.ls (A.map aJ),AV.ls (B.map aJ),AV.func (Fn.func F) [] [],AV.ls (z37.map ak)],[])
theorem L5(F:Nat)(op:Bool→Bool→Bool)(hF:∀x y,aA Tryz.prog G F [.bool x,.bool y] (.bool (op x y)))(e0:op false false=false)(a b:List PSpan)(ha:a.length<2^30)(hb:b.length<2^30):
    aA Tryz.prog G 207 [.ls (a.map aJ),.ls (b.map aJ),.func (.func F) [] []] (.ls ((sq op a b).map aJ)):=by
  have nA:=gQ a ha
  have nB:=gQ b hb
  have hA:=jE a
  have hB:=jE b
  have hd:=Ov e0 (a:=a) (b:=b) rfl rfl
  generalize fj a=A at *
  generalize fj b=B at *
  have lA:=hA.len
  have lB:=hB.len
  have hasA:∀d,aA Tryz.prog G 71 [.ls (A.map aJ),.int .i64 d] (.bool (gL A d)):=fun d=>JY A d hA.sort (by omega)
  have hasB:∀d,aA Tryz.prog G 71 [.ls (B.map aJ),.int .i64 d] (.bool (gL B d)):=fun d=>JY B d hB.sort (by omega)
  obtain⟨g,hg⟩:∃g:Int→Bool,g=fun d=>op (gL A d) (gL B d):=⟨_,rfl⟩
  have hgv:∀d v0,op (gL A d) (gL B d)=v0→g d=v0:=fun d v0 h=>by rw[hg];exact h
  rw[←hg]at hd
  have hcl:∀x,x=A++B→(iy x).length<2^30:=fun x hx=>by
    have z:=AM x
    rw[hx,dH]at z
    rw[hx];omega
  have hll:∀x,x=A++B→x.length<2^22:=fun x hx=>by rw[hx,dH];omega
  obtain⟨res,hres⟩:∃res,res=sq op a b:=⟨_,rfl⟩
  rw[←hres]at hd ⊢
  have hdone:∀x y z,x=A++B→y=iy x→dg g y=z→fj z=res:=fun x y z h1 h2 h3=>by rw[←h3,h2,h1];exact hd
  clear hd hg hres hA hB
  have rr0 b' (h:(List.map aJ res)=b':=by first|rfl|exact hdone _ _ _ hz20 hz37 (by rw[hx1.2.2,kO hx1.1 (by(first|omega|(simp only[aP]at *;omega)))])|exact(hdone _ _ _ hz20 hz37 (by rw[hx1.2.2.2.2,kO hx1.1 (by(first|omega|(simp only[aP]at *;omega))),dG]))|(rw[hdone _ _ _ hz20 hz37 (by rw[hx1.2.2,kO hx1.1 (by(first|omega|(simp only[aP]at *;omega)))])])|(rw[hdone _ _ _ hz20 hz37 (by rw[hx1.2.2.2.2,kO hx1.1 (by(first|omega|(simp only[aP]at *;omega))),dG])])):=h;exact bC Tryz.func207<|Kp 1 nA<|Kp 0 nB<|Mg 2<|M0 .inn<|Mj (List PSpan) [0,1,2,7,20,21,22] (SK F A B) (SV F A B) (fun c=>Mg 0<|Mc A (fun e=>Ml 17 (fx<|by rw[e];rfl:Le (aW []) (aW (List.map aJ A)))<|Mz 17 (fun(_:([]:List AV)=[])=>Mg 1<|Mc B (fun e=>Ml 19 (fx<|by rw[e];rfl:Le (aW []) (aW (List.map aJ B)))<|Kl 0 20 bI<|Kf 1<|c [] (by exact SZ (by assumption) (by assumption):[]=A++B)) fun e f i=>Ml 19 (fx<|by rw[i]:Le (aW (List.map aJ (e::f))) (aW (List.map aJ B)))<|M2 .apl (et (by exact km _ _:List.map aJ (e::f)≠[])<|fM 2 aJ (e::f) fun _=>rfl) (by exact KK (by assumption) lB:small (List.map aJ (e::f)).length 16=true)<|M2 (.fsl 0 [0,1,2,7] 20<|List.map aJ<|e::f) True.intro (cj (aq 0) (tA aJ (e::f) (List.map aJ<|e::f).length (by(simp only[b9,cP,dH];done):(e::f).length=(List.map aJ (e::f)).length))<|aX VO<|e::f)<|Ml 20 (eS (List.map aJ<|e::f) false<|aX VO<|e::f)<|Kl 0 21 (ln aJ<|e::f)<|Kf 0<|c (e::f) (by exact V0 (by assumption) (by assumption):e::f=A++B))<|Mg 1<|Mc B (fun e=>Ml 19 (fx<|by rw[e];rfl:Le (aW []) (aW (List.map aJ B)))<|Kl 0 20 (eS [] true (aq 0:ax ([])=0))<|Kf 1<|c [] (by exact SZ (by assumption) (by assumption):[]=A++B)) fun e f i=>Ml 19 (fx<|by rw[i]:Le (aW (List.map aJ (e::f))) (aW (List.map aJ B)))<|M2 .apl (et (by exact km _ _:List.map aJ (e::f)≠[])<|fM 2 aJ (e::f) fun _=>rfl) (by exact KK (by assumption) lB:small (List.map aJ (e::f)).length 16=true)<|M2 (.fsl 0 [0,1,2,7] 20<|List.map aJ<|e::f) True.intro (cj (aq 0) (tA aJ (e::f) (List.map aJ<|e::f).length (by(simp only[b9,cP,dH];done):(e::f).length=(List.map aJ (e::f)).length))<|aX VO<|e::f)<|Ml 20 (eS (List.map aJ<|e::f) false<|aX VO<|e::f)<|Kl 0 21 (ln aJ<|e::f)<|Kf 0<|c (e::f) (by exact V0 (by assumption) (by assumption):e::f=A++B)) fun e f i=>Ml 17 (fx<|by rw[i]:Le (aW (List.map aJ (e::f))) (aW (List.map aJ A)))<|Me (RR e f<|by exact T4 (by assumption) lA)<|Mg 0<|Mc B (fun i=>Ml 19 (fx<|by rw[i];rfl:Le (aW []) (aW (List.map aJ B)))<|Mg 0<|M2 (.fsl 0 [0,1,2,7] 20<|List.map aJ<|e::f) True.intro (cj (aq 0) (tA aJ (e::f) (f.length+1) rfl)<|aX VO<|e::f)<|Ml 20 (eS (List.map aJ<|e::f) false<|aX VO<|e::f)<|Kl 0 21 (ln aJ<|e::f)<|Kf 0<|c (e::f) (by exact SZ (by assumption) (by assumption):e::f=A++B)) fun i j k=>Ml 19 (fx<|by rw[k]:Le (aW (List.map aJ (i::j))) (aW (List.map aJ B)))<|M2 .apl (et (by exact km _ _:List.map aJ (i::j)≠[])<|fM 2 aJ (i::j) fun _=>rfl) (cj (aq 0) (by(simp only[b9,cP,dH];done):f.length+1=(List.map aJ (e::f)).length) (by exact TQ (by assumption) (by assumption) lA lB:small (f.length+1+(List.map aJ (i::j)).length) 16=true))<|M1 (.obj 0<|aZ 2 true (0+1)<|List.map aJ<|e::f++i::j) (congrArg (aZ 2 true<|0+1)<|cM (f:=aJ) (l:=e::f) (ws:=i::j))<|M2 (.fsl 0 [0,1,2,7] 20<|List.map aJ<|e::f++i::j) True.intro (cj (aq<|0+1) (tA aJ (e::f++i::j) (f.length+1+(List.map aJ<|i::j).length) (by(simp only[b9,cP,dH];done):(e::f++i::j).length=f.length+1+(List.map aJ (i::j)).length))<|aX VO<|e::f++i::j)<|Ml 20 (eS (List.map aJ<|e::f++i::j) false<|aX VO<|e::f++i::j)<|Kl 0 21 (ln aJ<|e::f++i::j)<|Kf 0<|c (e::f++i::j) (by exact Xm (by assumption) (by assumption):e::f++i::j=A++B)) fun c hz20=>have hz20:=hz20;kw Nat Nat (List Int) aJ c [0,1,2,7,20,21,22] (fun e _=>([aW<|A.map aJ,aW<|B.map aJ,bq (bU F) [] [],af,aW<|c.map aJ,nV c.length,nV e],[])) (fun e _ f i j=>([aW<|A.map aJ,aW<|B.map aJ,bq (bU F) [] [],aI 0 f 0 i none,aW<|c.map aJ,nV c.length,nV e],[aZ 1 true f<|j.map ak])) (fun e=>pU c=pU e) (fun e _ f i=>f=i.length∧(0:Nat)<i.length∧pU c=i++pU e) (by rfl) (fun _ _ _ _ _ e f=>Kh 0 e<|Kp 0 Gn<|Mj (List Int) [0,1,2,7] (Oj F A B c) (Ow F A B c) (fun e=>Kl 1 37 bI<|Kf 0<|e [] (by(unfold iy;rw[f];exact Y7.symm):[]=iy c)) fun e hz37=>have hz37:=hz37;have:=hz37▸hcl _ hz20;Mg 1<|Su Nat Nat Nat (List PSpan) (1:Nat) [0,1,2,7,10,11] (fun c=>([aW<|A.map aJ,aW<|B.map aJ,bq (bU F) [] [],aW<|e.map ak,af,nV c],[])) (fun c f i j=>([aW<|A.map aJ,aW<|B.map aJ,bq (bU F) [] [],aW<|e.map ak,aI 0 f 0 i none,nV c],[aZ 2 true f<|j.map aJ])) (fun c=>(1:Nat)≤c∧c≤2^30∧dg g e=dg g (e.drop<|c-1)) (fun c _ f i=>(1:Nat)≤c∧c≤2^30∧f=i.length∧i.length<c∧dg g e=i++dg g (e.drop<|c-1)) (fun c=>2^31-c) (fun c _ _ _=>2^31-c) (by exact⟨ar _,by omega,rfl⟩) (fun c hx1 f i=>have hx1:=hx1;have:=hx1.1;have:=hx1.2.1;Kl 2 40 (ln ak e)<|Ka 0 (Int.ofNat c) (Int.ofNat e.length) (fun _ _=>Kl 2 46 (we c)<|Mx (bZ ak (by(simp only[aP,b9,kc]at *;omega):c-1<(e).length))<|Kp 4 (hasA<|gD e<|c-1)<|Kp 1 (hasB<|gD e<|c-1)<|Mp (hF (gL A<|gD e<|c-1)<|gL B<|gD e<|c-1)<|Mb (op (gL A<|gD e<|c-1)<|gL B<|gD e<|c-1) (fun _=>Kx 3 (bZ ak (by(simp only[aP,b9,kc]at *;omega):c<(e).length))<|Kl 6 43 (g0 c)<|Kf 0<|i (c+1) 0 1 [PSpan.mk (gD e<|c-1)<|gD e c] (by exact⟨by(omega),by(simp only[aP]at *;omega),rfl,by(simp only[cP,gp];omega),DD hx1.2.2 hx1.1 (by(simp only[aP]at *;omega)) (hgv _ _ (by assumption)) rfl⟩)<|by(omega)) fun _=>Kl 1 43 (g0 c)<|Kf 0<|f (c+1) (by exact⟨by(omega),by(simp only[aP]at *;omega),DE hx1.2.2 hx1.1 (by(simp only[aP]at *;omega)) (hgv _ _ (by assumption)) rfl⟩)<|by(omega)) fun _ _=>Kp 0 qg<|Kf 0<|b6<|rr0<|List.map aJ<|fj []) fun c i j k hx1 _ l=>have hx1:=hx1;have:=hx1.1;have:=hx1.2.1;Kl 2 40 (ln ak e)<|Ka 0 (Int.ofNat c) (Int.ofNat e.length) (fun _ _=>Kl 2 46 (we c)<|Mx (bZ ak (by(simp only[aP,b9,kc]at *;omega):c-1<(e).length))<|Kp 4 (hasA<|gD e<|c-1)<|Kp 1 (hasB<|gD e<|c-1)<|Mp (hF (gL A<|gD e<|c-1)<|gL B<|gD e<|c-1)<|Mb (op (gL A<|gD e<|c-1)<|gL B<|gD e<|c-1) (fun _=>Kx 3 (bZ ak (by(simp only[aP,b9,kc]at *;omega):c<(e).length))<|K1 2 .app (cj (aq i) (by(rw[b9];first|exact f.1|exact hx1.2.2.1):j=(List.map aJ k).length) (by(refine cK (m:=2^31) ?_ ?_ ?_<;>first|omega|(simp only[b9,cP,dH,gp];omega)|(have z:=congrArg List.length f.2.2;rw[kY,dH]at z;have z9:=hll _ hz20;have z2:=f.1;first|omega|(simp only[cP,gp];omega))|(have z:=hx1.2.2.2.1;have z2:=hx1.2.2.1;have z3:=hx1.2.1;first|omega|(simp only[cP,gp];omega))):small (j+1) 16=true))<|M1 (.obj 0<|aZ 2 true (i+1)<|List.map aJ<|k++[PSpan.mk (gD e<|c-1)<|gD e c]) (congrArg (aZ 2 true<|i+1)<|cM (f:=aJ) (l:=k) (ws:=[PSpan.mk (gD e<|c-1)<|gD e c]))<|Kl 2 43 (g0 c)<|Kf 0<|l (c+1) (i+1) (j+1) (k++[PSpan.mk (gD e<|c-1)<|gD e c]) (by exact⟨by(omega),by(simp only[aP]at *;omega),by rw[dH,←hx1.2.2.1];rfl,by(have z:=hx1.2.2.2.1;simp only[dH,cP,gp];omega),by rw[hx1.2.2.2.2,DD rfl hx1.1 (by(simp only[aP]at *;omega)) (hgv _ _ (by assumption)) rfl];simp⟩)<|by(omega)) fun _=>Kl 1 43 (g0 c)<|Kf 0<|l (c+1) i j k (by exact⟨by(omega),by(simp only[aP]at *;omega),hx1.2.2.1,by(have z:=hx1.2.2.2.1;omega),by rw[hx1.2.2.2.2,DE rfl hx1.1 (by(simp only[aP]at *;omega)) (hgv _ _ (by assumption)) rfl]⟩)<|by(omega)) fun _ _=>Mg 0<|M2 (.fsl 0 [] 66<|List.map aJ k) True.intro (cj (aq i) (tA aJ k j (by(omega):(k).length=j))<|aX VO k)<|Ml 66 (eS (List.map aJ k) false<|aX VO k)<|Mp (gQ k<|by(omega))<|Kf 0<|b6<|rr0<|List.map aJ<|fj k) (fun e _ _ _ f i _ j _ k _ l n=>have:=hll _ hz20;Kt 0 k<|Mx l<|Kl 11 33 (g0 e)<|Mg 0<|M0 (.ren [1,0] [] [0,1,2,7,20,21,22])<|M1 (.frz 1 [0,1,2,7,20,21,22]) (et (aq true) True.intro)<|Mf<|j 0 2 [f.from_,f.to]<|by exact⟨rfl,by simp,by rw[n];rfl⟩) (fun _ _ e f i _ _ _ j k=>Kh 0 j<|Ke 0 (Aq i e f (by(omega)) (by(omega))<|by(have z:=congrArg List.length k.2.2;rw[kY,dH]at z;have z9:=hll _ hz20;omega))<|Mj (List Int) [0,1,2,7] (Oz F A B c) (Ox F A B c) (fun j=>Ke 0 (sK (bX i) e f (by(rw[(je _).length_eq];first|exact k.1|exact k.2.1|(have z:=congrArg List.length k.2.2;rw[kY,dH]at z;have z9:=hll _ hz20;omega))) (by(rw[(je _).length_eq];first|exact k.1|exact k.2.1|(have z:=congrArg List.length k.2.2;rw[kY,dH]at z;have z9:=hll _ hz20;omega)))<|by(rw[(je _).length_eq];first|exact k.1|exact k.2.1|(have z:=congrArg List.length k.2.2;rw[kY,dH]at z;have z9:=hll _ hz20;omega)))<|M2 (.fsl 0 [0,1,2] 37<|List.map ak<|List.take (am<|bX i).length<|am (bX i)++List.replicate ((bX i).length -(am<|bX i).length) 0) True.intro (cj (aq e) (wA (f:=ak) (l:=am (bX i)++List.replicate ((bX i).length -(am<|bX i).length) 0) (n:=(am<|bX i).length))<|aX Jl<|List.take (am<|bX i).length<|am (bX i)++List.replicate ((bX i).length -(am<|bX i).length) 0)<|Ml 37 (eS (List.map ak<|List.take (am<|bX i).length<|am (bX i)++List.replicate ((bX i).length -(am<|bX i).length) 0) false<|aX Jl<|List.take (am<|bX i).length<|am (bX i)++List.replicate ((bX i).length -(am<|bX i).length) 0)<|Kf 0<|j (List.take (am<|bX i).length<|am (bX i)++List.replicate ((bX i).length -(am<|bX i).length) 0) (by(unfold iy;rw[k.2.2];simp[pU]):List.take (am (bX i)).length (am (bX i)++List.replicate ((bX i).length -(am (bX i)).length) (0:Int))=iy c)) fun e hz37=>have hz37:=hz37;have:=hz37▸hcl _ hz20;Mg 1<|Su Nat Nat Nat (List PSpan) (1:Nat) [0,1,2,7,10,11] (fun c=>([aW<|A.map aJ,aW<|B.map aJ,bq (bU F) [] [],aW<|e.map ak,af,nV c],[])) (fun c f i j=>([aW<|A.map aJ,aW<|B.map aJ,bq (bU F) [] [],aW<|e.map ak,aI 0 f 0 i none,nV c],[aZ 2 true f<|j.map aJ])) (fun c=>(1:Nat)≤c∧c≤2^30∧dg g e=dg g (e.drop<|c-1)) (fun c _ f i=>(1:Nat)≤c∧c≤2^30∧f=i.length∧i.length<c∧dg g e=i++dg g (e.drop<|c-1)) (fun c=>2^31-c) (fun c _ _ _=>2^31-c) (by exact⟨ar _,by omega,rfl⟩) (fun c hx1 f i=>have hx1:=hx1;have:=hx1.1;have:=hx1.2.1;Kl 2 40 (ln ak e)<|Ka 0 (Int.ofNat c) (Int.ofNat e.length) (fun _ _=>Kl 2 46 (we c)<|Mx (bZ ak (by(simp only[aP,b9,kc]at *;omega):c-1<(e).length))<|Kp 4 (hasA<|gD e<|c-1)<|Kp 1 (hasB<|gD e<|c-1)<|Mp (hF (gL A<|gD e<|c-1)<|gL B<|gD e<|c-1)<|Mb (op (gL A<|gD e<|c-1)<|gL B<|gD e<|c-1) (fun _=>Kx 3 (bZ ak (by(simp only[aP,b9,kc]at *;omega):c<(e).length))<|Kl 6 43 (g0 c)<|Kf 0<|i (c+1) 0 1 [PSpan.mk (gD e<|c-1)<|gD e c] (by exact⟨by(omega),by(simp only[aP]at *;omega),rfl,by(simp only[cP,gp];omega),DD hx1.2.2 hx1.1 (by(simp only[aP]at *;omega)) (hgv _ _ (by assumption)) rfl⟩)<|by(omega)) fun _=>Kl 1 43 (g0 c)<|Kf 0<|f (c+1) (by exact⟨by(omega),by(simp only[aP]at *;omega),DE hx1.2.2 hx1.1 (by(simp only[aP]at *;omega)) (hgv _ _ (by assumption)) rfl⟩)<|by(omega)) fun _ _=>Kp 0 qg<|Kf 0<|b6<|rr0<|List.map aJ<|fj []) fun c f i j hx1 _ l=>have hx1:=hx1;have:=hx1.1;have:=hx1.2.1;Kl 2 40 (ln ak e)<|Ka 0 (Int.ofNat c) (Int.ofNat e.length) (fun _ _=>Kl 2 46 (we c)<|Mx (bZ ak (by(simp only[aP,b9,kc]at *;omega):c-1<(e).length))<|Kp 4 (hasA<|gD e<|c-1)<|Kp 1 (hasB<|gD e<|c-1)<|Mp (hF (gL A<|gD e<|c-1)<|gL B<|gD e<|c-1)<|Mb (op (gL A<|gD e<|c-1)<|gL B<|gD e<|c-1) (fun _=>Kx 3 (bZ ak (by(simp only[aP,b9,kc]at *;omega):c<(e).length))<|K1 2 .app (cj (aq f) (by(rw[b9];first|exact k.1|exact hx1.2.2.1):i=(List.map aJ j).length) (by(refine cK (m:=2^31) ?_ ?_ ?_<;>first|omega|(simp only[b9,cP,dH,gp];omega)|(have z:=congrArg List.length k.2.2;rw[kY,dH]at z;have z9:=hll _ hz20;have z2:=k.1;first|omega|(simp only[cP,gp];omega))|(have z:=hx1.2.2.2.1;have z2:=hx1.2.2.1;have z3:=hx1.2.1;first|omega|(simp only[cP,gp];omega))):small (i+1) 16=true))<|M1 (.obj 0<|aZ 2 true (f+1)<|List.map aJ<|j++[PSpan.mk (gD e<|c-1)<|gD e c]) (congrArg (aZ 2 true<|f+1)<|cM (f:=aJ) (l:=j) (ws:=[PSpan.mk (gD e<|c-1)<|gD e c]))<|Kl 2 43 (g0 c)<|Kf 0<|l (c+1) (f+1) (i+1) (j++[PSpan.mk (gD e<|c-1)<|gD e c]) (by exact⟨by(omega),by(simp only[aP]at *;omega),by rw[dH,←hx1.2.2.1];rfl,by(have z:=hx1.2.2.2.1;simp only[dH,cP,gp];omega),by rw[hx1.2.2.2.2,DD rfl hx1.1 (by(simp only[aP]at *;omega)) (hgv _ _ (by assumption)) rfl];simp⟩)<|by(omega)) fun _=>Kl 1 43 (g0 c)<|Kf 0<|l (c+1) f i j (by exact⟨by(omega),by(simp only[aP]at *;omega),hx1.2.2.1,by(have z:=hx1.2.2.2.1;omega),by rw[hx1.2.2.2.2,DE rfl hx1.1 (by(simp only[aP]at *;omega)) (hgv _ _ (by assumption)) rfl]⟩)<|by(omega)) fun _ _=>Mg 0<|M2 (.fsl 0 [] 66<|List.map aJ j) True.intro (cj (aq f) (tA aJ j i (by(omega):(j).length=i))<|aX VO j)<|Ml 66 (eS (List.map aJ j) false<|aX VO j)<|Mp (gQ j<|by(omega))<|Kf 0<|b6<|rr0<|List.map aJ<|fj j) fun e _ f i j _ _ k l _ n _ o _ p q=>have:=hll _ hz20;Kt 0 o<|Mx p<|K1 8 .app (cj (aq f) (by(rw[b9];first|exact q.1|exact hx1.2.2.1):i=(List.map ak j).length) (by(refine cK (m:=2^31) ?_ ?_ ?_<;>first|omega|(simp only[b9,cP,dH,gp];omega)|(have z:=congrArg List.length q.2.2;rw[kY,dH]at z;have z9:=hll _ hz20;have z2:=q.1;first|omega|(simp only[cP,gp];omega))|(have z:=hx1.2.2.2.1;have z2:=hx1.2.2.1;have z3:=hx1.2.1;first|omega|(simp only[cP,gp];omega))):small (i+2) 8=true))<|M1 (.obj 0<|aZ 1 true (f+1)<|List.map ak<|j++[k.from_,k.to]) (congrArg (aZ 1 true<|f+1)<|cM (f:=ak) (l:=j) (ws:=[k.from_,k.to]))<|Kl 1 33 (g0 e)<|K1 0 (.frz 1 [0,1,2,7,20,21,22]) (et (tR 1 true (f+1) 1<|aX Jl<|j++[k.from_,k.to]) True.intro)<|Mf<|n (f+1) (i+2) (j++[k.from_,k.to])<|by exact⟨by rw[dH,←q.1];rfl,by simp,by rw[q.2.2,DU];simp⟩
theorem Wc(x y:Bool):kP 208 [.bool x,.bool y] (.bool (x||y)):=by
  have rr0 b' (h:(x||y)=b':=by simp only[aS,aw,bS, *]):=h;exact bC Tryz.func208<|Kb 2 x (fun a=>MV a<|Ky 0<|rr0 true) fun a=>Kw 0 a<|Ky 0<|rr0 y
theorem Vk(x y:Bool):kP 209 [.bool x,.bool y] (.bool (x&&y)):=by
  have rr0 b' (h:(x&&y)=b':=by simp only[aS,aw,bS, *]):=h;exact bC Tryz.func209<|Kb 2 x (fun a=>Ku 0 a<|Ky 0<|rr0 y) fun a=>My a<|Ky 0<|rr0 false
theorem O6(a b:List PSpan)(ha:a.length<2^30)(hb:b.length<2^30):kP 147 [.ls (a.map aJ),.ls (b.map aJ)] (.ls ((sq (· || ·) a b).map aJ)):=by
  have h:=L5 208 (· || ·) Wc rfl a b ha hb
  exact bC Tryz.func147<|Kp 2 h<|Kf 0<|bd<|aW<|(sq (fun c d=>c||d) a b).map aJ
theorem Qu(a b:List PSpan)(ha:a.length<2^30)(hb:b.length<2^30):kP 150 [.ls (a.map aJ),.ls (b.map aJ)] (.ls ((sq (· && ·) a b).map aJ)):=by
  have h:=L5 209 (· && ·) Vk rfl a b ha hb
  exact bC Tryz.func150<|Kp 2 h<|Kf 0<|bd<|aW<|(sq (fun c d=>c&&d) a b).map aJ
noncomputable def ou(a:List PSpan)(d:Int):List PSpan:=sq (· && ·) a [⟨0,d⟩]
noncomputable def pB(a:List PSpan)(d:Int):List PSpan:=sq (· || ·) (ou a d) [⟨d,1048577⟩]
theorem sa(a:List PSpan)(d:Int):NrmS (ou a d):=zt _
theorem um(a:List PSpan)(d:Int):NrmS (pB a d):=zt _
theorem Fa(a:List PSpan)(d:Int)(ha:a.length<2^30):kP 122 [.ls (a.map aJ),iV d] (.ls ((ou a d).map aJ)):=by
  have h:kP 150 [.ls (a.map aJ),.ps [aJ ⟨0,d⟩] true] (.ls ((ou a d).map aJ)):=(Qu a [⟨0,d⟩] ha (by simp)).onArgs (.cons (Le.refl _) (.cons (Le.ps _ _ rfl) .nil))
  exact bC Tryz.func122<|Kp 4 h<|Kf 0<|bd<|aW<|(ou a d).map aJ
theorem Rv(a:List PSpan)(d:Int)(ha:a.length<2^30):kP 120 [.ls (a.map aJ),iV d] (.ls ((pB a d).map aJ)):=by
  have h0:=Fa a d ha
  have hl:=(sa a d).len
  have h:kP 147 [.ls ((ou a d).map aJ),.ps [aJ ⟨d,1048577⟩] true] (.ls ((pB a d).map aJ)):=(O6 (ou a d) [⟨d,1048577⟩] (by omega) (by simp)).onArgs (.cons (Le.refl _) (.cons (Le.ps _ _ rfl) .nil))
  exact bC Tryz.func120<|Kp 2 h0<|Kp 2 h<|Kf 0<|bd<|aW<|(pB a d).map aJ
noncomputable def sJ(k:Int):Bool:=al k 7||al k 9
noncomputable def kF(k:Int):Bool:=sJ k||al k 8
noncomputable def rT(k:Int):AV:=match sJ k with|true=>.func (.func 120) [] []|false=>match al k 8 with|true=>.func (.func 122) [] []|false=>.nilf
theorem zP(k:Int):eH (some .nilf) true (bc false 1 [(0,1)] (iV k) [⟨iV 7,.func (.func 120) [] [],0⟩,⟨iV 9,.func (.func 120) [] [],1⟩,⟨iV 8,.func (.func 122) [] [],2⟩] 0)=some (.tuple [rT k,.bool (kF k)]):=by
  unfold rT kF sJ
  simp only[bc,qo,Jd,kf]
  cases h1:al k 7<;>cases h2:al k 9<;>cases h3:al k 8<;>rfl
theorem PW{k:Int}(h:sJ k=true):Le (.func (.func 120) [] []) (rT k):=by unfold rT;rw[h];exact Le.refl _
theorem S0{k:Int}(h:sJ k=false)(h2:kF k=true):Le (.func (.func 122) [] []) (rT k):=by
  unfold kF at h2;rw[h,Bool.false_or]at h2
  unfold rT;rw[h,h2];exact Le.refl _
noncomputable def PJ:List AEnt:=[⟨iV 7,.func (.func 120) [] [],0⟩,⟨iV 9,.func (.func 120) [] [],1⟩,⟨iV 8,.func (.func 122) [] [],2⟩]
theorem SR(x:PItem):kD 90 [] (ab [.row 25 false 0 [eI x]]) (.map 1) (ab [.row 25 false 0 [eI x],.map PJ 3]):=by
  exact eM Tryz.func90 fun a=>Kf 6 a
theorem SS(s:PStart)(d o:PDeed):kD 90 [] (ab [.row 3 false 0 [av s],.row 28 false 0 [aU d],.row 28 false 0 [aU o]]) (.map 3) (ab [.row 3 false 0 [av s],.row 28 false 0 [aU d],.row 28 false 0 [aU o],.map PJ 3]):=by
  exact eM Tryz.func90 fun a=>Kf 6 a
noncomputable def rV(x:PItem)(a i:Int):Bool:=al x.act a&&(match al x.kind 11 with|true=>al x.item i|false=>kF x.kind&&(al x.item i||al x.item (-1)))
theorem NK(x:PItem)(a i:Int):kP 91 [eI x,iV a,iV i] (.bool (rV x a i)):=by
  have hlk:=zP
  have rr0 b' (h:(rV x a i)=b':=by unfold rV;generalize al x.act a=p1 at *;generalize al x.kind 11=p2 at *;generalize al x.item i=p3 at *;generalize al x.item (-1)=p4 at *;generalize kF x.kind=p5 at *;simp only[aS,aw,bS, *]):=h;let q:=[az [iV x.kind,aW (x.at_.map aj),aW (x.to.map aj),iV x.where_,iV x.nth_,iV x.unit.act,iV x.unit.item,iV x.unit.n,iV x.unit.kind,aK x.unit.label,aW (x.unit.head.map aQ),aW (x.unit.words.map aQ),aW (x.unit.kids.map aV),aW (x.old.map mS),aW (x.new.map mS),aK x.label,aK x.for_,iV x.start.kind,iV x.start.day,aK x.start.event,iV x.act,iV x.item,iV x.day,aK x.event,aW (x.by_.map N7)]];let q1:=bq (bU 120) [] [];exact bC Tryz.func91<|Kc 5 x.act a (fun _ _=>Ky 0<|rr0 false) fun _ _=>Kj 2 x.kind 11 (fun _ _=>Kf 4<|ch<|rr0<|al x.item i) fun _ _=>M3 (.efx true (AV.map 1)<|ab [aZ 25 false 0 q,AObj.map [AEnt.mk (iV 7) q1 0,AEnt.mk (iV 9) q1 1,AEnt.mk (iV 8) (bq (bU 122) [] []) 2] 3]) (et rt ti) (et (aq<|some<|aZ 25 false 0 q) ti) (SR x)<|K1 1 (.look<|eV [rT x.kind,dF<|kF x.kind]) (hlk x.kind)<|Kb 6 (kF x.kind) (fun b=>Kt 0 b<|Kt 0 b<|Kt 0 b<|Kt 0 b<|Kj 0 x.item i (fun c _=>Mt c<|Mt c<|Mt b<|MV c<|MV b<|Ky 0<|rr0 true) fun c _=>Kh 0 c<|Kh 0 c<|Kt 0 b<|My c<|MV b<|Kf 0<|ch<|rr0<|al x.item (-1)) fun b=>Mh b<|Mh b<|Mh b<|Mh b<|Mh b<|My b<|Ky 0<|rr0 false
noncomputable abbrev gF(nm:aO):AObj:=.row 1 false 0 [.str nm]
noncomputable def sU(nm:aO)(d:PDeed):Bool:=al d.it.kind 10&&dS d.it.event nm
theorem Rb(nm:aO)(d:PDeed):kD 149 [aU d,.ptr 0 0 0 0] (ab [gF nm]) (.bool (sU nm d)) (ab [gF nm]):=by
  let q:=ab [aZ 1 false 0 [aK nm]];exact O3 Tryz.func149<|Kj 6 d.it.kind 10 (fun a _=>Kt 0 a<|Kt 0 a<|Kt 0 a<|Kt 0 a<|Ku 0 a<|K1 0 (.frz 1 [3]) (et rt ti)<|Mf<|et (by unfold sU;generalize al d.it.kind 10=p1 at *;generalize dS d.it.event nm=p2 at *;simp only[aS,aw,bS, *]:(AV.bool (dS d.it.event nm))=(AV.bool (sU nm d)))<|aq q) fun a _=>Mh a<|Mh a<|Mh a<|Mh a<|My a<|K1 0 (.frz 1 [3]) (et rt ti)<|Mf<|et (by unfold sU;generalize al d.it.kind 10=p1 at *;generalize dS d.it.event nm=p2 at *;simp only[aS,aw,bS, *]:(AV.bool false)=(AV.bool (sU nm d)))<|aq q
noncomputable def jK(nm:aO):List PDeed→Nat→Int
  |[],_=> -1
  |d::r,i=>match sU nm d with|true=>Int.ofNat i|false=>jK nm r (i+1)
theorem Ll(nm:aO):∀(l:List PDeed)(i:Nat),jK nm l i<Int.ofNat (i+l.length)∧(0≤jK nm l i∨jK nm l i= -1)
  |[],i=>⟨by simp only[jK,oN];omega,.inr rfl⟩
  | d::r,i=>by
    have:=Ll nm r (i+1)
    cases h:sU nm d<;>simp only[jK,h,oN,lC]at * <;>omega
theorem YO{nm:aO}{d:PDeed}{r:List PDeed}{i:Nat}(h:sU nm d=true):jK nm (d::r) i=Int.ofNat i:=by simp only[jK,h]
theorem YP{nm:aO}{d:PDeed}{r:List PDeed}{i:Nat}(h:sU nm d=false):jK nm (d::r) i=jK nm r (i+1):=by simp only[jK,h]
theorem C3(nm:aO)(l:List PDeed)(hl:l.length<2^40):kD 148 [.ls (l.map aU),.func (.func 149) [] [.ptr 0 0 0 0]] (ab [gF nm]) (iV (jK nm l 0)) (ab [gF nm]):=by
  let q:=ab [aZ 1 false 0 [aK nm]];exact O3 Tryz.func148<|Kl 2 7 (ln aU l)<|Mg 0<|tK aU l [0,1,7,8] (fun a _=>([aW<|l.map aU,bq (bU 149) [] [bY 0 0 0 0],nV l.length,nV a],[aZ 1 false 0 [aK nm]])) (fun a=>jK nm l (0:Nat)=jK nm a (l.length-a.length)) (by(rw[Nat.sub_self])) (fun _ _ _ _ _ a b=>Kh 0 a<|Kf 0<|et (by(rw[b];rfl):(iV (-1))=(iV (jK nm l 0)))<|aq q) fun a _ b _ c d e f g _ h i=>have:=ft b f;Kt 0 g<|Kx 4 h<|Ke 0 (Rb nm c)<|Mb (sU nm c) (fun _=>Kf 1<|et (by(rw[i,YO (by assumption)];congr 2;have z:=Ir (b.trans f) (by simp) (by simp only[lC];omega:(l.length-(d.length+1))+(c::d).length=l.length);exact z):(nV a)=(iV (jK nm l 0)))<|aq q) fun _=>Kl 0 18 (dW a)<|Kf 0<|e<|by(rw[i,YP (by assumption)];congr 1;have:=ft b f;simp only[lC];omega)
theorem Ry(d:Int):kP 120 [.nils,iV d] (.ls ((pB [] d).map aJ)):=(Rv [] d (by simp)).onArgs (.cons Le.nils (.cons (Le.refl _) .nil))
theorem Jb(nm:aO)(l:List PDeed)(hl:l.length<2^40)(h:au (jK nm l 0) 0=true):kP 121 [.str nm,.ls (l.map aU)] (.tuple [iV 0,.bool false]):=by
  exact bC Tryz.func121<|Ke 4 (C3 nm l hl)<|Kt 2 h<|Kf 1<|bd<|eV [iV 0,dF false]
theorem Jc(nm:aO)(l:List PDeed)(hl:l.length<2^40)(h:au (jK nm l 0) 0=false):kP 121 [.str nm,.ls (l.map aU)] (.tuple [iV (gD l (jK nm l 0).toNat).it.day,.bool true]):=by
  have g1:=aF h
  have g2:=(Ll nm l 0).1
  exact bC Tryz.func121<|Ke 4 (C3 nm l hl)<|Kh 2 h<|Kl 1 13 (Bh (x:=jK nm l 0) oA)<|Mx (bZ aU (by(simp only[oN,lM,lS]at *;omega):(jK nm l 0).toNat<(l).length))<|Kf 4<|bd<|eV [iV (gD l (jK nm l 0).toNat).it.day,dF true]
noncomputable def lJ(s:PStart)(l:List PDeed):List PSpan:=match al s.kind 1 with|true=>pB [] s.day|false=>match al s.kind 3 with|true=>(match au (jK s.event l 0) 0 with|true=>[]|false=>pB [] (gD l (jK s.event l 0).toNat).it.day)|false=>[]
theorem NE(s:PStart)(l:List PDeed)(hl:l.length<2^40)(hi:au (jK s.event l 0) 0=true):kP 88 [av s,.ls (l.map aU)] (.ls ((lJ s l).map aJ)):=by
  have he:=Jb s.event l hl hi
  have e:lJ s l=match al s.kind 1 with|true=>pB [] s.day|false=>[]:=(by unfold lJ;rw[hi];cases al s.kind 1<;>cases al s.kind 3<;>rfl)
  rw[e]
  have rr0 b' (h:((match al s.kind 1 with|true=>pB [] s.day|false=>[]).map aJ)=b':=by generalize al s.kind 1=p1 at *;(rw[h0]);try rfl):=h;exact bC Tryz.func88<|Kj 5 s.kind 1 (fun h0 _=>Kp 1 (Ry s.day)<|Kf 0<|b6<|rr0<|(pB [] s.day).map aJ) fun h0 _=>Kj 1 s.kind 3 (fun _ _=>Kp 2 he<|Kf 7 (Le.lsn<|rr0 []:Le _ (af))) fun _ _=>Kf 0 (Le.lsn<|rr0 []:Le _ (af))
theorem NF(s:PStart)(l:List PDeed)(hl:l.length<2^40)(hi:au (jK s.event l 0) 0=false):kP 88 [av s,.ls (l.map aU)] (.ls ((lJ s l).map aJ)):=by
  have he:=Jc s.event l hl hi
  have e:lJ s l=match al s.kind 1 with|true=>pB [] s.day|false=>match al s.kind 3 with|true=>pB [] (gD l (jK s.event l 0).toNat).it.day |false=>[]:=(by unfold lJ;rw[hi])
  rw[e]
  have rr0 b' (h:((match al s.kind 1 with|true=>pB [] s.day|false=>match al s.kind 3 with|true=>pB [] (gD l (jK s.event l 0).toNat).it.day |false=>[]).map aJ)=b':=by generalize al s.kind 1=p1 at *;generalize al s.kind 3=p3 at *;(rw[h0]);(first|rw[h1]|skip);try rfl):=h;exact bC Tryz.func88<|Kj 5 s.kind 1 (fun h0 _=>Kp 1 (Ry s.day)<|Kf 0<|b6<|rr0<|(pB [] s.day).map aJ) fun h0 _=>Kj 1 s.kind 3 (fun h1 _=>Kp 2 he<|Kp 7 (Ry (gD l (jK s.event l 0).toNat).it.day)<|Kf 0<|b6<|rr0<|(pB [] (gD l (jK s.event l 0).toNat).it.day).map aJ) fun h1 _=>Kf 0 (Le.lsn<|rr0 []:Le _ (af))
theorem JK(s:PStart)(l:List PDeed)(hl:l.length<2^40):kP 88 [av s,.ls (l.map aU)] (.ls ((lJ s l).map aJ)):=by
  cases hi:au (jK s.event l 0) 0
  · exact NF s l hl hi
  · exact NE s l hl hi
noncomputable def sf(d o:PDeed)(days:List PSpan):List PSpan:=match kF o.it.kind&&rV o.it d.act d.item with|true=>(match sJ o.it.kind with|true=>pB days o.it.day|false=>ou days o.it.day)|false=>days
noncomputable def lu(d:PDeed):List PDeed→List PSpan→List PSpan
  |[],days=>days
  |o::r,days=>lu d r (sf d o days)
noncomputable def ao(s:PStart)(d:PDeed)(l:List PDeed):List PSpan:=match au d.it.kind 0||au 6 d.it.kind with|true=>[]|false=>lu d l (lJ (effS s d.it.start) l)
theorem NG(s:PStart)(l:List PDeed):(lJ s l).length≤1048577:=by
  have h:=fun d=>(um [] d).len
  unfold lJ
  cases al s.kind 1<;>cases al s.kind 3<;>cases au (jK s.event l 0) 0<;>simp only[lN]<;>first|exact h _|omega
theorem gq(s:PStart)(d:PDeed)(l:List PDeed)(hl:l.length<2^40):kP 70 [av s,aU d,.ls (l.map aU)] (.ls ((ao s d l).map aJ)):=by
  have hlk:=zP
  have hle1:∀k,sJ k=true→Le (.func (.func 120) [] []) (rT k):=fun k h=>PW h
  have hle2:∀k,sJ k=false→kF k=true→Le (.func (.func 122) [] []) (rT k):=fun k h h2=>S0 h h2
  have hil:=NG (effS s d.it.start) l
  have hin:∀b,(au d.it.kind 0||au 6 d.it.kind)=b→ao s d l=match b with|true=>[]|false=>lu d l (lJ (effS s d.it.start) l):=fun b h=>by unfold ao;rw[h]
  have hst:∀(o:PDeed)(r:List PDeed)(days:List PSpan),lu d (o::r) days=lu d r (sf d o days):=fun o r days=>rfl
  have rr0 b' (h:((ao s d l).map aJ)=b':=by first|(rw[hin true (by simp only[aS,aw,bS, *];try rfl)];rfl)|(rw[hin false (by simp only[aS,aw,bS, *];try rfl)];first|exact congrArg _ hj0.2|exact congrArg _ hj0.2.symm|(rw[hj0.2];rfl))):=h;let q1:=[az [iV d.act,iV d.item,iV d.day,iV d.it.kind,aW (d.it.at_.map aj),aW (d.it.to.map aj),iV d.it.where_,iV d.it.nth_,iV d.it.unit.act,iV d.it.unit.item,iV d.it.unit.n,iV d.it.unit.kind,aK d.it.unit.label,aW (d.it.unit.head.map aQ),aW (d.it.unit.words.map aQ),aW (d.it.unit.kids.map aV),aW (d.it.old.map mS),aW (d.it.new.map mS),aK d.it.label,aK d.it.for_,iV d.it.start.kind,iV d.it.start.day,aK d.it.start.event,iV d.it.act,iV d.it.item,iV d.it.day,aK d.it.event,aW (d.it.by_.map N7)]];let q2:=[az [iV s.kind,iV s.day,aK s.event]];let q3:=bq (bU 120) [] [];exact bC Tryz.func70<|Ka 7 d.it.kind 0 (fun a _=>Mt a<|Mt a<|Mt a<|MV a<|Kf 1 (Le.lsn<|rr0 []:Le _ (af))) fun a _=>Kh 0 a<|Kh 0 a<|Kh 0 a<|Kw 0 a<|Mb (au 6 d.it.kind) (fun a=>have:=an a;Kf 0 (Le.lsn<|rr0 []:Le _ (af))) fun a=>have:=aF a;Kp 3 (Hc s d.it.start)<|Kp 0 (JK (effS s d.it.start) l hl)<|Kl 2 30 (ln aU l)<|Mg 0<|Ve (0:Nat) l (lJ (effS s d.it.start) l) [4,7,29,30,31] (fun a _ c=>([bY 1 0 0 0,aW<|c.map aJ,aW<|l.map aU,nV l.length,nV a],[aZ 3 false 0 [az [iV s.kind,iV s.day,aK s.event]],aZ 28 false 0 [az [iV d.act,iV d.item,iV d.day,iV d.it.kind,aW<|d.it.at_.map aj,aW<|d.it.to.map aj,iV d.it.where_,iV d.it.nth_,iV d.it.unit.act,iV d.it.unit.item,iV d.it.unit.n,iV d.it.unit.kind,aK d.it.unit.label,aW<|d.it.unit.head.map aQ,aW<|d.it.unit.words.map aQ,aW<|d.it.unit.kids.map aV,aW<|d.it.old.map mS,aW<|d.it.new.map mS,aK d.it.label,aK d.it.for_,iV d.it.start.kind,iV d.it.start.day,aK d.it.start.event,iV d.it.act,iV d.it.item,iV d.it.day,aK d.it.event,aW<|d.it.by_.map N7]]])) (fun a c e=>(l).drop a=c∧e.length≤1048577∧lu d l (lJ (effS s d.it.start) l)=lu d c e) (fun _ a _=>a.length) (et rfl<|by(exact⟨hil,rfl⟩)) fun a c e f g=>Mc c (fun a=>have c:=eG f.1 a;have hj0:=gd (J:=fun a c=>c.length≤1048577∧lu d l (lJ (effS s d.it.start) l)=lu d a c) (a:=e) a f.2;Kh 0 c<|Kf 1<|b6<|rr0<|e.map aJ) fun c i j=>let m:=[az [iV c.act,iV c.item,iV c.day,iV c.it.kind,aW<|c.it.at_.map aj,aW<|c.it.to.map aj,iV c.it.where_,iV c.it.nth_,iV c.it.unit.act,iV c.it.unit.item,iV c.it.unit.n,iV c.it.unit.kind,aK c.it.unit.label,aW<|c.it.unit.head.map aQ,aW<|c.it.unit.words.map aQ,aW<|c.it.unit.kids.map aV,aW<|c.it.old.map mS,aW<|c.it.new.map mS,aK c.it.label,aK c.it.for_,iV c.it.start.kind,iV c.it.start.day,aK c.it.start.event,iV c.it.act,iV c.it.item,iV c.it.day,aK c.it.event,aW<|c.it.by_.map N7]];have n:=fJ f.1 j;have:=an n;have p:=eF (enc:=aU) f.1 j;have hj0:=cw (J:=fun a c=>c.length≤1048577∧lu d l (lJ (effS s d.it.start) l)=lu d a c) (a:=e) j f.2;Kt 0 n<|Mx p<|Mg 2<|M3 (.efx true (AV.map 3)<|ab [aZ 3 false 0 q2,aZ 28 false 0 q1,aZ 28 false 0 m,AObj.map [AEnt.mk (iV 7) q3 0,AEnt.mk (iV 9) q3 1,AEnt.mk (iV 8) (bq (bU 122) [] []) 2] 3]) (jQ rt rt rt ti) (jQ (aq<|some<|aZ 28 false 0 m) (aq<|some<|aZ 28 false 0 q1) (aq<|some<|aZ 3 false 0 q2) ti) (SS s d c)<|K1 2 (.look<|eV [rT c.it.kind,dF<|kF c.it.kind]) (hlk c.it.kind)<|Kb 6 (kF c.it.kind) (fun m=>Kt 0 m<|Kt 0 m<|Kt 0 m<|Kt 0 m<|Kt 0 m<|Kt 0 m<|Mp (NK c.it d.act d.item)<|MV m<|Mb (rV c.it d.act d.item) (fun _=>Ks 4 (sJ c.it.kind) (fun m=>Ml 53 (hle1 c.it.kind m)<|Mp (Rv e c.it.day oA)<|Kl 1 59 (dW a)<|K1 0 (.frz 2 [4,7,29,30,31]) (cj rt rt ti)<|Mf<|g (a+1) i (pB e c.it.day) (et (bJ f.1 j)<|by exact⟨(um _ _).len,by rw[hj0.2,hst];simp only[sf, *];rfl⟩)<|dl j) fun n=>Ml 53 (hle2 c.it.kind n m)<|Mp (Fa e c.it.day oA)<|Kl 1 59 (dW a)<|K1 0 (.frz 2 [4,7,29,30,31]) (cj rt rt ti)<|Mf<|g (a+1) i (ou e c.it.day) (et (bJ f.1 j)<|by exact⟨(sa _ _).len,by rw[hj0.2,hst];simp only[sf, *];rfl⟩)<|dl j) fun _=>Kl 0 59 (dW a)<|K1 0 (.frz 2 [4,7,29,30,31]) (cj rt rt ti)<|Mf<|g (a+1) i e (et (bJ f.1 j)<|by exact⟨hj0.1,by rw[hj0.2,hst];simp only[sf,aS,aw,bS, *];try rfl⟩)<|dl j) fun c=>Mh c<|Mh c<|Mh c<|Mh c<|Mh c<|Mh c<|My c<|Kl 1 59 (dW a)<|K1 0 (.frz 2 [4,7,29,30,31]) (cj rt rt ti)<|Mf<|g (a+1) i e (et (bJ f.1 j)<|by exact⟨hj0.1,by rw[hj0.2,hst];simp only[sf,aS,aw,bS, *];try rfl⟩)<|dl j
noncomputable abbrev iD(d:Int):AObj:=.row 1 false 0 [iV d]
noncomputable abbrev qh:AObj:=.row 1 false 0 [.nils]
noncomputable abbrev pD(i ep n:Nat):AObj:=.row 1 false 0 [.slice i ep 0 n none]
noncomputable abbrev bm(m:List (Int×PStart)):AObj:=.map (bv av m 0) m.length
noncomputable abbrev dx(d:PDeed):AObj:=.row 28 false 0 [aU d]
noncomputable abbrev pA(ep:Nat)(l:List PDeed):AObj:=.row 28 true ep (l.map aU)
def dC:PStart:=⟨0,0,[]⟩
def aC(m:List (Int×PStart))(k:Int):PStart:=(gO k m).getD dC
theorem o5(m:List (Int×PStart))(k:Int):eH (some (.agg [iV 0,iV 0,.str []])) false (bc false 1 [(0,1)] (iV k) (bv av m 0) 0)=some (av (aC m k)):=by
  rw[zS]
  cases h:gO k m<;>simp only[aC,h,Option.getD]<;>rfl
theorem rZ(m:List (Int×PStart))(a:PAct):rF (bv av m 0) m.length (iV a.number) (.agg [iV a.start.kind,iV a.start.day,.str a.start.event]) (bc false 1 [(0,1)] (iV a.number) (bv av m 0) 0)=some (bv av (g9 a.number a.start m) 0,(g9 a.number a.start m).length):=Ck (f:=av) a.number a.start m
/-- The starts of the acts by their numbers. -/
def kN(l:List PAct)(m:List (Int×PStart)):List (Int×PStart):=l.foldl (fun m a=>g9 a.number a.start m) m
theorem jF(s:PStart)(d:PDeed)(l:List PDeed):NrmS (ao s d l):=by
  have h1:∀(s:PStart),NrmS (lJ s l):=fun s=>by
    unfold lJ
    cases al s.kind 1<;>cases al s.kind 3<;>cases au (jK s.event l 0) 0<;>first|exact yY|exact um _ _
  have h2:∀(r:List PDeed)(days:List PSpan),NrmS days→NrmS (lu d r days):=by
    intro r
    induction r with
    |nil=>intro days h;exact h
    | cons o r ih=>
      intro days h
      refine ih _ ?_
      unfold sf
      cases kF o.it.kind&&rV o.it d.act d.item<;>cases sJ o.it.kind<;>first|exact h|exact um _ _|exact sa _ _
  unfold ao
  cases au d.it.kind 0||au 6 d.it.kind
  · exact h2 l _ (h1 _)
  · exact yY
theorem sT(s:PStart)(d:PDeed)(l:List PDeed)(day:Int):kP 49 [.ls ((ao s d l).map aJ),iV day] (.bool (gL (ao s d l) day)):=by
  have hn:=jF s d l
  have h:=Ho (ao s d l) day (nJ hn.len (by decide))
  rwa[show fj (ao s d l)=ao s d l from(LK hn).symm]at h
/-- Whether an amendment is told: its purpose, its days. -/
noncomputable def XJ(p:aO)(d:PDeed):Bool:=dS d.it.for_ []||dS d.it.for_ p
noncomputable def wL(day:Int)(p:aO)(m:List (Int×PStart))(ds:List PDeed)(d:PDeed):Bool:=XJ p d&&gL (ao (aC m d.act) d ds) day
noncomputable def qe(day:Int)(p:aO)(m:List (Int×PStart))(ds l:List PDeed):List PDeed:=l.filter fun d=>ce d.it.kind&&wL day p m ds d
theorem Z7(d:PDeed)(ss:List PSpan)(day:Int)(p:aO)(m:List (Int×PStart))(hc:kP 49 [.ls (ss.map aJ),iV day] (.bool false)):kD 48 [aU d,.ls (ss.map aJ),.ptr 1 0 0 0,.ptr 0 0 0 0,.ptr 2 0 0 0] (ab [iD day,gF p,qh,bm m,dx d]) (.tuple []) (ab [iD day,gF p,qh,bm m,dx d]):=by
  exact eM Tryz.func48 fun a=>Kb 5 (dS d.it.for_ (ByteArray.mk #[]).data.toList) (fun b=>Mt b<|Mt b<|Mt b<|Mt b<|MV b<|Kp 2 hc<|K1 1 (.frz 5 []) (ya rt (tM m.length 5<|ah (f:=av) (fun _=>rfl) m 0) rt rt rt ti)<|Mf a) fun b=>Kh 0 b<|Kh 0 b<|Kh 0 b<|Kh 0 b<|Kw 0 b<|Kb 0 (dS d.it.for_ p) (fun b=>Kt 0 b<|Kt 0 b<|Mp hc<|MV b<|K1 0 (.frz 5 []) (ya rt (tM m.length 5<|ah (f:=av) (fun _=>rfl) m 0) rt rt rt ti)<|Mf a) fun b=>Mh b<|Mh b<|My b<|K1 0 (.frz 5 []) (ya rt (tM m.length 5<|ah (f:=av) (fun _=>rfl) m 0) rt rt rt ti)<|Mf a
theorem Z6(d:PDeed)(ss:List PSpan)(day:Int)(p:aO)(m:List (Int×PStart))(h1:dS d.it.for_ []=false)(h2:dS d.it.for_ p=false):kD 48 [aU d,.ls (ss.map aJ),.ptr 1 0 0 0,.ptr 0 0 0 0,.ptr 2 0 0 0] (ab [iD day,gF p,qh,bm m,dx d]) (.tuple []) (ab [iD day,gF p,qh,bm m,dx d]):=by
  exact eM Tryz.func48 fun a=>Kh 5 h1<|Kh 0 h1<|Kh 0 h1<|Kh 0 h1<|Kh 0 h1<|Kw 0 h1<|Kh 0 h2<|Mh h2<|Mh h2<|My h2<|K1 0 (.frz 5 []) (ya rt (tM m.length 5<|ah (f:=av) (fun _=>rfl) m 0) rt rt rt ti)<|Mf a
theorem Z5(d:PDeed)(ss:List PSpan)(day:Int)(p:aO)(m:List (Int×PStart))(hc:kP 49 [.ls (ss.map aJ),iV day] (.bool true))(h1:dS d.it.for_ []=true):kD 48 [aU d,.ls (ss.map aJ),.ptr 1 0 0 0,.ptr 0 0 0 0,.ptr 2 0 0 0] (ab [iD day,gF p,qh,bm m,dx d]) (.tuple []) (ab [iD day,gF p,pD 5 0 1,bm m,dx d,pA 0 [d]]):=by
  exact eM Tryz.func48 fun a=>Kt 5 h1<|Mt h1<|Mt h1<|Mt h1<|Mt h1<|MV h1<|Kp 2 hc<|K1 6 (.ren [0,1,2,3,4,6,5] [3] []) (tN m.length<|ah (f:=av) (fun _=>rfl) m 0)<|M1 (.frz 6 []) (N3 rt rt (tM m.length 6<|ah (f:=av) (fun _=>rfl) m 0) rt rt rt ti)<|Mf a
theorem Z4(d:PDeed)(ss:List PSpan)(day:Int)(p:aO)(m:List (Int×PStart))(hc:kP 49 [.ls (ss.map aJ),iV day] (.bool true))(h1:dS d.it.for_ []=false)(h2:dS d.it.for_ p=true):kD 48 [aU d,.ls (ss.map aJ),.ptr 1 0 0 0,.ptr 0 0 0 0,.ptr 2 0 0 0] (ab [iD day,gF p,qh,bm m,dx d]) (.tuple []) (ab [iD day,gF p,pD 5 0 1,bm m,dx d,pA 0 [d]]):=by
  exact eM Tryz.func48 fun a=>Kh 5 h1<|Kh 0 h1<|Kh 0 h1<|Kh 0 h1<|Kh 0 h1<|Kw 0 h1<|Kt 0 h2<|Kt 0 h2<|Kt 0 h2<|Mp hc<|MV h2<|K1 5 (.ren [0,1,2,3,4,6,5] [3] []) (tN m.length<|ah (f:=av) (fun _=>rfl) m 0)<|M1 (.frz 6 []) (N3 rt rt (tM m.length 6<|ah (f:=av) (fun _=>rfl) m 0) rt rt rt ti)<|Mf a
theorem Z3(d:PDeed)(ss:List PSpan)(day:Int)(p:aO)(m:List (Int×PStart))(ep n:Nat)(out:List PDeed)(hc:kP 49 [.ls (ss.map aJ),iV day] (.bool false)):kD 48 [aU d,.ls (ss.map aJ),.ptr 1 0 0 0,.ptr 0 0 0 0,.ptr 2 0 0 0] (ab [iD day,gF p,pD 4 ep n,bm m,pA ep out,dx d]) (.tuple []) (ab [iD day,gF p,pD 4 ep n,bm m,pA ep out,dx d]):=by
  exact eM Tryz.func48 fun a=>Kb 5 (dS d.it.for_ (ByteArray.mk #[]).data.toList) (fun b=>Mt b<|Mt b<|Mt b<|Mt b<|MV b<|Kp 2 hc<|K1 1 (.frz 6 []) (N3 rt (tR 28 true ep 6<|aX xw out) (tM m.length 6<|ah (f:=av) (fun _=>rfl) m 0) rt rt rt ti)<|Mf a) fun b=>Kh 0 b<|Kh 0 b<|Kh 0 b<|Kh 0 b<|Kw 0 b<|Kb 0 (dS d.it.for_ p) (fun b=>Kt 0 b<|Kt 0 b<|Mp hc<|MV b<|K1 0 (.frz 6 []) (N3 rt (tR 28 true ep 6<|aX xw out) (tM m.length 6<|ah (f:=av) (fun _=>rfl) m 0) rt rt rt ti)<|Mf a) fun b=>Mh b<|Mh b<|My b<|K1 0 (.frz 6 []) (N3 rt (tR 28 true ep 6<|aX xw out) (tM m.length 6<|ah (f:=av) (fun _=>rfl) m 0) rt rt rt ti)<|Mf a
theorem Z2(d:PDeed)(ss:List PSpan)(day:Int)(p:aO)(m:List (Int×PStart))(ep n:Nat)(out:List PDeed)(h1:dS d.it.for_ []=false)(h2:dS d.it.for_ p=false):kD 48 [aU d,.ls (ss.map aJ),.ptr 1 0 0 0,.ptr 0 0 0 0,.ptr 2 0 0 0] (ab [iD day,gF p,pD 4 ep n,bm m,pA ep out,dx d]) (.tuple []) (ab [iD day,gF p,pD 4 ep n,bm m,pA ep out,dx d]):=by
  exact eM Tryz.func48 fun a=>Kh 5 h1<|Kh 0 h1<|Kh 0 h1<|Kh 0 h1<|Kh 0 h1<|Kw 0 h1<|Kh 0 h2<|Mh h2<|Mh h2<|My h2<|K1 0 (.frz 6 []) (N3 rt (tR 28 true ep 6<|aX xw out) (tM m.length 6<|ah (f:=av) (fun _=>rfl) m 0) rt rt rt ti)<|Mf a
theorem Z1(d:PDeed)(ss:List PSpan)(day:Int)(p:aO)(m:List (Int×PStart))(ep n:Nat)(out:List PDeed)(hn:n=out.length)(hn2:n<2^20)(hc:kP 49 [.ls (ss.map aJ),iV day] (.bool true))(h1:dS d.it.for_ []=true):kD 48 [aU d,.ls (ss.map aJ),.ptr 1 0 0 0,.ptr 0 0 0 0,.ptr 2 0 0 0] (ab [iD day,gF p,pD 4 ep n,bm m,pA ep out,dx d]) (.tuple []) (ab [iD day,gF p,pD 4 (ep+1) (n+1),bm m,pA (ep+1) (out++[d]),dx d]):=by
  exact eM Tryz.func48 fun a=>Kt 5 h1<|Mt h1<|Mt h1<|Mt h1<|Mt h1<|MV h1<|Kp 2 hc<|K1 4 .app (cj (aq ep) (by(rw[lM];exact hn):n=(out.map aU).length) (by exact cK (m:=2^21) (by omega) (by decide) (by decide):small (n+1) 392=true))<|M1 (.obj 4<|aZ 28 true (ep+1)<|(out++[d]).map aU) (congrArg (aZ 28 true<|ep+1)<|cM (f:=aU) (l:=out) (ws:=[d]))<|K1 0 (.frz 6 []) (N3 rt (tR 28 true (ep+1) 6<|aX xw<|out++[d]) (tM m.length 6<|ah (f:=av) (fun _=>rfl) m 0) rt rt rt ti)<|Mf a
theorem Z0(d:PDeed)(ss:List PSpan)(day:Int)(p:aO)(m:List (Int×PStart))(ep n:Nat)(out:List PDeed)(hn:n=out.length)(hn2:n<2^20)(hc:kP 49 [.ls (ss.map aJ),iV day] (.bool true))(h1:dS d.it.for_ []=false)(h2:dS d.it.for_ p=true):kD 48 [aU d,.ls (ss.map aJ),.ptr 1 0 0 0,.ptr 0 0 0 0,.ptr 2 0 0 0] (ab [iD day,gF p,pD 4 ep n,bm m,pA ep out,dx d]) (.tuple []) (ab [iD day,gF p,pD 4 (ep+1) (n+1),bm m,pA (ep+1) (out++[d]),dx d]):=by
  exact eM Tryz.func48 fun a=>Kh 5 h1<|Kh 0 h1<|Kh 0 h1<|Kh 0 h1<|Kh 0 h1<|Kw 0 h1<|Kt 0 h2<|Kt 0 h2<|Kt 0 h2<|Mp hc<|MV h2<|K1 3 .app (cj (aq ep) (by(rw[lM];exact hn):n=(out.map aU).length) (by exact cK (m:=2^21) (by omega) (by decide) (by decide):small (n+1) 392=true))<|M1 (.obj 4<|aZ 28 true (ep+1)<|(out++[d]).map aU) (congrArg (aZ 28 true<|ep+1)<|cM (f:=aU) (l:=out) (ws:=[d]))<|K1 0 (.frz 6 []) (N3 rt (tR 28 true (ep+1) 6<|aX xw<|out++[d]) (tM m.length 6<|ah (f:=av) (fun _=>rfl) m 0) rt rt rt ti)<|Mf a
theorem VA{day:Int}{p:aO}{m:List (Int×PStart)}{ds:List PDeed}{d:PDeed}(h:wL day p m ds d=false):kP 49 [.ls ((ao (aC m d.act) d ds).map aJ),iV day] (.bool false)∨(dS d.it.for_ []=false∧dS d.it.for_ p=false):=by
  unfold wL XJ at h
  have hz:=sT (aC m d.act) d ds day
  cases q:gL (ao (aC m d.act) d ds) day with
  |false=>rw[q]at hz;exact .inl hz
  |true=>rw[q,Bool.and_true,CJ]at h;exact .inr h
theorem PT{day:Int}{p:aO}{m:List (Int×PStart)}{ds:List PDeed}{d:PDeed}(h:wL day p m ds d=true):kP 49 [.ls ((ao (aC m d.act) d ds).map aJ),iV day] (.bool true)∧(dS d.it.for_ []=true∨(dS d.it.for_ []=false∧dS d.it.for_ p=true)):=by
  unfold wL XJ at h
  obtain⟨h1,h2⟩:=pN.1 h
  have hz:=sT (aC m d.act) d ds day
  rw[h2]at hz
  refine⟨hz,?_⟩
  cases q:dS d.it.for_ []with
  |true=>exact .inl rfl
  |false=>rw[q,Bool.false_or]at h1;exact .inr ⟨rfl,h1⟩
theorem Yr(day:Int)(p:aO)(m:List (Int×PStart))(ds:List PDeed)(d:PDeed)(hb:wL day p m ds d=false):kD 48 [aU d,.ls ((ao (aC m d.act) d ds).map aJ),.ptr 1 0 0 0,.ptr 0 0 0 0,.ptr 2 0 0 0] (ab [iD day,gF p,qh,bm m,dx d]) (.tuple []) (ab [iD day,gF p,qh,bm m,dx d]):=by
  rcases VA hb with h|⟨h1,h2⟩
  · exact Z7 d _ day p m h
  · exact Z6 d _ day p m h1 h2
theorem aab(day:Int)(p:aO)(m:List (Int×PStart))(ds:List PDeed)(d:PDeed)(hb:By (wL day p m ds d) false):kD 48 [aU d,.ls ((ao (aC m d.act) d ds).map aJ),.ptr 1 0 0 0,.ptr 0 0 0 0,.ptr 2 0 0 0] (ab [iD day,gF p,qh,bm m,dx d]) (.tuple []) (ab [iD day,gF p,qh,bm m,dx d]):=Yr day p m ds d hb
theorem aaa(day:Int)(p:aO)(m:List (Int×PStart))(ds:List PDeed)(d:PDeed)(hb:By (wL day p m ds d) true):kD 48 [aU d,.ls ((ao (aC m d.act) d ds).map aJ),.ptr 1 0 0 0,.ptr 0 0 0 0,.ptr 2 0 0 0] (ab [iD day,gF p,qh,bm m,dx d]) (.tuple []) (ab [iD day,gF p,pD 5 0 1,bm m,dx d,pA 0 [d]]):=by
  obtain⟨h,h1|⟨h1,h2⟩⟩:=PT hb
  · exact Z5 d _ day p m h h1
  · exact Z4 d _ day p m h h1 h2
theorem Z9(day:Int)(p:aO)(m:List (Int×PStart))(ds:List PDeed)(d:PDeed)(ep n:Nat)(out:List PDeed)(hb:By (wL day p m ds d) false):kD 48 [aU d,.ls ((ao (aC m d.act) d ds).map aJ),.ptr 1 0 0 0,.ptr 0 0 0 0,.ptr 2 0 0 0] (ab [iD day,gF p,pD 4 ep n,bm m,pA ep out,dx d]) (.tuple []) (ab [iD day,gF p,pD 4 ep n,bm m,pA ep out,dx d]):=by
  rcases VA hb with h|⟨h1,h2⟩
  · exact Z3 d _ day p m ep n out h
  · exact Z2 d _ day p m ep n out h1 h2
theorem Z8(day:Int)(p:aO)(m:List (Int×PStart))(ds:List PDeed)(d:PDeed)(ep n:Nat)(out:List PDeed)(hb:By (wL day p m ds d) true)(hn:n=out.length)(hn2:n<2^20):kD 48 [aU d,.ls ((ao (aC m d.act) d ds).map aJ),.ptr 1 0 0 0,.ptr 0 0 0 0,.ptr 2 0 0 0] (ab [iD day,gF p,pD 4 ep n,bm m,pA ep out,dx d]) (.tuple []) (ab [iD day,gF p,pD 4 (ep+1) (n+1),bm m,pA (ep+1) (out++[d]),dx d]):=by
  obtain⟨h,h1|⟨h1,h2⟩⟩:=PT hb
  · exact Z1 d _ day p m ep n out hn hn2 h h1
  · exact Z0 d _ day p m ep n out hn hn2 h h1 h2
theorem F6{day:Int}{p:aO}{m:List (Int×PStart)}{ds r:List PDeed}{d:PDeed}(h:ce d.it.kind=false):qe day p m ds (d::r)=qe day p m ds r:=by simp only[qe,List.filter_cons,h,wj];rfl
theorem Cu{day:Int}{p:aO}{m:List (Int×PStart)}{ds r:List PDeed}{d:PDeed}(h:wL day p m ds d=false):qe day p m ds (d::r)=qe day p m ds r:=by simp only[qe,List.filter_cons,h,wy];rfl
theorem F5{day:Int}{p:aO}{m:List (Int×PStart)}{ds r:List PDeed}{d:PDeed}(h:ce d.it.kind=true)(h2:wL day p m ds d=true):qe day p m ds (d::r)=d::qe day p m ds r:=by simp only[qe,List.filter_cons,h,h2];rfl
structure OnA(day:Int)(p:aO)(m:List (Int×PStart))(ds r:List PDeed):Prop where
  f:qe day p m ds ds=qe day p m ds r
structure OnR(day:Int)(p:aO)(m:List (Int×PStart))(ds r:List PDeed)(ep n:Nat)(out:List PDeed):Prop where
  len:n=out.length
  ep:ep+1=out.length
  small:out.length+r.length≤ds.length
  f:qe day p m ds ds=out++qe day p m ds r
theorem OnA.no{day:Int}{p:aO}{m:List (Int×PStart)}{ds r:List PDeed}{d:PDeed}(h:OnA day p m ds (d::r))(ha:ce d.it.kind=false):OnA day p m ds r:=⟨by rw[h.f,F6 ha]⟩
theorem OnA.nil{day:Int}{p:aO}{m:List (Int×PStart)}{ds r:List PDeed}{d:PDeed}(h:OnA day p m ds (d::r))(hb:wL day p m ds d=false):OnA day p m ds r:=⟨by rw[h.f,Cu hb]⟩
theorem OnA.new{day:Int}{p:aO}{m:List (Int×PStart)}{ds r:List PDeed}{d:PDeed}{n:Nat}(h:OnA day p m ds (d::r))(hl:(d::r).length≤ds.length)(ha:ce d.it.kind=true)(hb:wL day p m ds d=true)(hn:n=1):OnR day p m ds r 0 n [d]:=⟨hn,rfl,by simp only[lC,lN]at *;omega,by rw[h.f,F5 ha hb];rfl⟩
theorem OnR.no{day:Int}{p:aO}{m:List (Int×PStart)}{ds r:List PDeed}{d:PDeed}{ep n:Nat}{out:List PDeed}(h:OnR day p m ds (d::r) ep n out)(ha:ce d.it.kind=false):OnR day p m ds r ep n out:=⟨h.len,h.ep,by have:=h.small;simp only[lC]at this;omega,by rw[h.f,F6 ha]⟩
theorem OnR.nil{day:Int}{p:aO}{m:List (Int×PStart)}{ds r:List PDeed}{d:PDeed}{ep n:Nat}{out:List PDeed}(h:OnR day p m ds (d::r) ep n out)(hb:wL day p m ds d=false):OnR day p m ds r ep n out:=⟨h.len,h.ep,by have:=h.small;simp only[lC]at this;omega,by rw[h.f,Cu hb]⟩
theorem OnR.new{day:Int}{p:aO}{m:List (Int×PStart)}{ds r:List PDeed}{d:PDeed}{ep n k:Nat}{out:List PDeed}(h:OnR day p m ds (d::r) ep n out)(ha:ce d.it.kind=true)(hb:wL day p m ds d=true)(hk:k=n+1):OnR day p m ds r (ep+1) k (out++[d]):=by
  have:=h.len;have:=h.ep;have:=h.small
  refine⟨?_,?_,?_,by rw[h.f,F5 ha hb,md];rfl⟩<;>simp only[lA,lC,lN]at * <;>omega
theorem OnR.done{day:Int}{p:aO}{m:List (Int×PStart)}{ds:List PDeed}{ep n:Nat}{out:List PDeed}(h:OnR day p m ds [] ep n out):ep=(qe day p m ds ds).length -1∧n=(qe day p m ds ds).length∧out=qe day p m ds ds:=by
  have e:qe day p m ds ds=out:=by rw[h.f];exact dG _
  have:=h.len;have:=h.ep
  rw[e];exact⟨by omega,by omega,rfl⟩
theorem Ip{α:Type}{l r:List α}{j:Nat}{a:α}(h:l.drop j=a::r):(a::r).length≤l.length:=by rw[←h,wz];omega
theorem VB{day:Int}{p:aO}{m:List (Int×PStart)}{ds r:List PDeed}{d:PDeed}(h:qe day p m ds (d::r)=[])(ha:ce d.it.kind=true):wL day p m ds d=false:=by
  cases q:wL day p m ds d with
  |false=>rfl
  |true=>rw[F5 ha q]at h;cases h
theorem Xl(gs:List PGaz)(L:List PAct)(ds:List PDeed)(day:Int)(p:aO)(hL:L.length<10000)(hd:ds.length<100000)(ha:kP 67 [.ls (gs.map ay)] (.ls (L.map aa)))(hi:kP 68 [.ls (gs.map ay)] (.ls (ds.map aU)))(hE:qe day p (kN L []) ds ds=[]):
    kD 47 [.ls (gs.map ay),.func (.func 48) [] [.ptr 1 0 0 0,.ptr 0 0 0 0,.ptr 2 0 0 0]] (ab [iD day,gF p,qh]) (.tuple []) (ab [iD day,gF p,qh]):=by
  have hlk:=o5
  have hup:=rZ
  let q1:=[iV day];exact eM Tryz.func47 fun a=>Kp 2 ha<|Kl 0 13 (ln aa L)<|Mg 0<|JI aa L ([]:List (Int×PStart)) [0,1,4,12,13,14] (fun a _ b=>([aW<|gs.map ay,bq (bU 48) [] [bY 1 0 0 0,bY 0 0 0 0,bY 2 0 0 0],AV.map 3,aW<|L.map aa,nV L.length,nV a],[aZ 1 false 0 [iV day],aZ 1 false 0 [aK p],aZ 1 false 0 [af],AObj.map (bv av b 0) b.length])) (fun a b=>kN L []=kN a b) (by rfl) (fun _ _ b _ _ _ c d=>Kh 0 c<|Kp 0 hi<|Kl 2 27 (ln aU ds)<|Mg 0<|Ve (0:Nat) ds () [1,4,7,26,27,28] (fun a _ _=>([bq (bU 48) [] [bY 1 0 0 0,bY 0 0 0 0,bY 2 0 0 0],AV.map 3,aW<|ds.map aU,aW<|ds.map aU,nV ds.length,nV a],[aZ 1 false 0 [iV day],aZ 1 false 0 [aK p],aZ 1 false 0 [af],AObj.map (bv av b 0) b.length])) (fun a c _=>(ds).drop a=c∧qe day p b ds c=[]) (fun _ a _=>a.length) (et rfl<|by(rw[←show kN L []=b from d];exact hE)) fun c d e f g=>Mc d (fun c=>have d:=eG f.1 c;have:=gd (J:=fun a _=>qe day p b ds a=[]) (a:=e) c f.2;Kh 0 d<|M1 (.frz 3 []) (jQ rt rt rt ti)<|Mf a) fun a d h=>let i:=[az [iV a.act,iV a.item,iV a.day,iV a.it.kind,aW<|a.it.at_.map aj,aW<|a.it.to.map aj,iV a.it.where_,iV a.it.nth_,iV a.it.unit.act,iV a.it.unit.item,iV a.it.unit.n,iV a.it.unit.kind,aK a.it.unit.label,aW<|a.it.unit.head.map aQ,aW<|a.it.unit.words.map aQ,aW<|a.it.unit.kids.map aV,aW<|a.it.old.map mS,aW<|a.it.new.map mS,aK a.it.label,aK a.it.for_,iV a.it.start.kind,iV a.it.start.day,aK a.it.start.event,iV a.it.act,iV a.it.item,iV a.it.day,aK a.it.event,aW<|a.it.by_.map N7]];have j:=fJ f.1 h;have:=an j;have k:=eF (enc:=aU) f.1 h;have e:=cw (J:=fun a _=>qe day p b ds a=[]) (a:=e) h f.2;Kt 0 j<|Mx k<|Kp 5 (jv a.it.kind)<|Mb (ce a.it.kind) (fun _=>K1 4 (.look<|az [iV (aC b a.act).kind,iV (aC b a.act).day,aK (aC b a.act).event]) (hlk b a.act)<|Kp 1 (gq (aC b a.act) a ds<|by(omega))<|M3 (.efx true (eV [])<|ab [aZ 1 false 0 q1,aZ 1 false 0 [aK p],aZ 1 false 0 [af],AObj.map (bv av b 0) b.length,aZ 28 false 0 i]) (ya rt (tM b.length 5<|ah (f:=av) (fun _=>rfl) b 0) rt rt rt ti) (ya (aq<|some<|aZ 28 false 0 i) (aq<|some<|AObj.map (bv av b 0) b.length) (aq<|some<|aZ 1 false 0 [af]) (aq<|some<|aZ 1 false 0 [aK p]) (aq<|some<|aZ 1 false 0 q1) ti) (Yr day p b ds a<|by exact VB e (by assumption))<|Kl 0 46 (dW c)<|K1 0 (.frz 4 [1,4,7,26,27,28]) (xC (tM b.length 4<|ah (f:=av) (fun _=>rfl) b 0) rt rt rt ti)<|Mf<|g (c+1) d () (et (bJ f.1 h)<|by(have z:=e;rw[Cu (VB z (by assumption))]at z;exact z))<|dl h) fun _=>Kl 0 46 (dW c)<|K1 0 (.frz 4 [1,4,7,26,27,28]) (xC (tM b.length 4<|ah (f:=av) (fun _=>rfl) b 0) rt rt rt ti)<|Mf<|g (c+1) d () (et (bJ f.1 h)<|by(have z:=e;rw[F6 (by assumption)]at z;exact z))<|dl h) fun a _ b _ _ c d e _ f _ g h=>Kt 0 f<|Mx g<|K1 7 (.upd (bv av (g9 c.number c.start b) 0) (g9 c.number c.start b).length) (hup b c)<|Kl 0 23 (dW a)<|K1 0 (.frz 4 [0,1,4,12,13,14]) (xC (tM (g9 c.number c.start b).length 4<|ah (f:=av) (fun _=>rfl) (g9 c.number c.start b) 0) rt rt rt ti)<|Mf<|e (g9 c.number c.start b)<|by exact h
def HE(gs:List PGaz)(L:List PAct)(day:Int)(p:aO)(x0:Nat×List PAct×List (Int×PStart)):Prop:=(L).drop x0.1=x0.2.1∧kN L []=kN x0.2.1 x0.2.2
noncomputable def xe(gs:List PGaz)(L:List PAct)(day:Int)(p:aO)(x0:Nat×List PAct×List (Int×PStart)):List AV×List AObj:=([AV.ls (gs.map ay),AV.func (Fn.func 48) [] [AV.ptr 1 0 0 0,AV.ptr 0 0 0 0,AV.ptr 2 0 0 0],AV.map 3,AV.ls (L.map aa),nV L.length,nV x0.1],[AObj.row 1 false 0 [iV day],AObj.row 1 false 0 [AV.str p],AObj.row 1 false 0 [AV.nils],AObj.map (bv av x0.2.2 0) x0.2.2.length])
def HD(ds:List PDeed)(day:Int)(p:aO)(x0:Nat×List PAct×List (Int×PStart))(x1:Nat×List PDeed×Unit):Prop:=(ds).drop x1.1=x1.2.1∧OnA day p x0.2.2 ds x1.2.1
noncomputable def xd(ds:List PDeed)(day:Int)(p:aO)(x0:Nat×List PAct×List (Int×PStart))(x1:Nat×List PDeed×Unit):List AV×List AObj:=([AV.func (Fn.func 48) [] [AV.ptr 1 0 0 0,AV.ptr 0 0 0 0,AV.ptr 2 0 0 0],AV.map 3,AV.ls (ds.map aU),AV.ls (ds.map aU),nV ds.length,nV x1.1],[AObj.row 1 false 0 [iV day],AObj.row 1 false 0 [AV.str p],AObj.row 1 false 0 [AV.nils],AObj.map (bv av x0.2.2 0) x0.2.2.length])
def HC(ds:List PDeed)(day:Int)(p:aO)(x0:Nat×List PAct×List (Int×PStart))(x1:Nat×List PDeed×Nat×Nat×List PDeed):Prop:=(ds).drop x1.1=x1.2.1∧OnR day p x0.2.2 ds x1.2.1 x1.2.2.1 x1.2.2.2.1 x1.2.2.2.2
noncomputable def HB(ds:List PDeed)(day:Int)(p:aO)(x0:Nat×List PAct×List (Int×PStart))(x1:Nat×List PDeed×Nat×Nat×List PDeed):List AV×List AObj:=([AV.func (Fn.func 48) [] [AV.ptr 1 0 0 0,AV.ptr 0 0 0 0,AV.ptr 2 0 0 0],AV.map 3,AV.ls (ds.map aU),AV.ls (ds.map aU),nV ds.length,nV x1.1],[AObj.row 1 false 0 [iV day],AObj.row 1 false 0 [AV.str p],AObj.row 1 false 0 [AV.slice 4 x1.2.2.1 0 x1.2.2.2.1 none],AObj.map (bv av x0.2.2 0) x0.2.2.length,AObj.row 28 true x1.2.2.1 (x1.2.2.2.2.map aU)])
theorem Xi(gs:List PGaz)(L:List PAct)(ds:List PDeed)(day:Int)(p:aO)(hL:L.length<10000)(hd:ds.length<100000)(ha:kP 67 [.ls (gs.map ay)] (.ls (L.map aa)))(hi:kP 68 [.ls (gs.map ay)] (.ls (ds.map aU)))(hE:qe day p (kN L []) ds ds≠[]):
    kD 47 [.ls (gs.map ay),.func (.func 48) [] [.ptr 1 0 0 0,.ptr 0 0 0 0,.ptr 2 0 0 0]] (ab [iD day,gF p,qh]) (.tuple []) (ab [iD day,gF p,pD 3 ((qe day p (kN L []) ds ds).length -1) (qe day p (kN L []) ds ds).length,pA ((qe day p (kN L []) ds ds).length -1) (qe day p (kN L []) ds ds)]):=by
  have hlk:=o5
  have hup:=rZ
  let q5:=[iV day];let q8:=eV [];let q10:=some (aZ 1 false 0 [aK p]);let q11:=some (aZ 1 false 0 q5);exact O3 Tryz.func47<|Kp 2 ha<|Kl 0 13 (ln aa L)<|Mg 0<|ML (Nat×List PAct×List (Int×PStart)) [0,1,4,12,13,14] (xe gs L day p) (HE gs L day p) (fun a=>a.2.1.length) (0,L,[]) (aq<|xe gs L day p (0,L,[])) (et (rfl:List.drop 0 (L)=L) (by rfl:(kN L []=kN L []))) fun a b c=>let d:=some<|AObj.map (bv av a.2.2 0) a.2.2.length;Mi (fun a b=>kN L []=kN a b) aa b (fun _ b c=>Kh 0 b<|Kp 0 hi<|Kl 2 27 (ln aU ds)<|Mg 0<|MM (Nat×List PDeed×Unit) (Nat×List PDeed×Nat×Nat×List PDeed) [1,4,7,26,27,28] (xd ds day p a) (HB ds day p a) (HD ds day p a) (HC ds day p a) (fun a=>a.2.1.length) (fun a=>a.2.1.length) (.inl (0,ds,())) (aq<|xd ds day p a (0,ds,())) (et (rfl:List.drop 0 (ds)=ds) (by(exact⟨rfl⟩):(OnA day p a.2.2 ds ds))) (fun b e f=>Mc b.2.1 (fun d=>have f:=eG e.1 d;have b:=gd (J:=fun b _=>OnA day p a.2.2 ds b) (a:=b.2.2) d e.2;Kh 0 f<|Mw .abs (by exact hE (by rw[show kN L []=a.2.2 from c];exact b.f):False)) fun c g h=>let i:=[az [iV c.act,iV c.item,iV c.day,iV c.it.kind,aW<|c.it.at_.map aj,aW<|c.it.to.map aj,iV c.it.where_,iV c.it.nth_,iV c.it.unit.act,iV c.it.unit.item,iV c.it.unit.n,iV c.it.unit.kind,aK c.it.unit.label,aW<|c.it.unit.head.map aQ,aW<|c.it.unit.words.map aQ,aW<|c.it.unit.kids.map aV,aW<|c.it.old.map mS,aW<|c.it.new.map mS,aK c.it.label,aK c.it.for_,iV c.it.start.kind,iV c.it.start.day,aK c.it.start.event,iV c.it.act,iV c.it.item,iV c.it.day,aK c.it.event,aW<|c.it.by_.map N7]];let j:=az [iV (aC a.2.2 c.act).kind,iV (aC a.2.2 c.act).day,aK (aC a.2.2 c.act).event];have k:=fJ e.1 h;have:=an k;have l:=eF (enc:=aU) e.1 h;have m:=cw (J:=fun b _=>OnA day p a.2.2 ds b) (a:=b.2.2) h e.2;Kt 0 k<|Mx l<|Kp 5 (jv c.it.kind)<|Mb (ce c.it.kind) (fun _=>Ms (wL day p a.2.2 ds c) (fun d=>K1 4 (.look j) (hlk a.2.2 c.act)<|Kp 1 (gq (aC a.2.2 c.act) c ds<|by(omega))<|M3 (.efx false q8<|ab [aZ 1 false 0 q5,aZ 1 false 0 [aK p],aZ 1 false 0 [aI 5 0 0 1 none],AObj.map (bv av a.2.2 0) a.2.2.length,aZ 28 false 0 i,aZ 28 true 0 i]) (ya rt (tM a.2.2.length 5<|ah (f:=av) (fun _=>rfl) a.2.2 0) rt rt rt ti) ti (aaa day p a.2.2 ds c d)<|Kl 0 46 (dW b.1)<|K1 0 (.ren [0,1,2,3,5,4] [3] [1,4,7,26,27,28]) (tN a.2.2.length<|ah (f:=av) (fun _=>rfl) a.2.2 0)<|M1 (.frz 5 [1,4,7,26,27,28]) (ya rt (tM a.2.2.length 5<|ah (f:=av) (fun _=>rfl) a.2.2 0) rt rt rt ti)<|Mf<|f (.inr (b.1+1,g,(0,1,[c]))) (et (bJ e.1 h) (by exact m.new (Ip (e.1.trans h)) (by assumption) (by assumption) rfl:(OnR day p a.2.2 ds g (0:Nat) (1:Nat) [c])))<|dl h) fun k=>K1 4 (.look j) (hlk a.2.2 c.act)<|Kp 1 (gq (aC a.2.2 c.act) c ds<|by(omega))<|M3 (.efx true q8<|ab [aZ 1 false 0 q5,aZ 1 false 0 [aK p],aZ 1 false 0 [af],AObj.map (bv av a.2.2 0) a.2.2.length,aZ 28 false 0 i]) (ya rt (tM a.2.2.length 5<|ah (f:=av) (fun _=>rfl) a.2.2 0) rt rt rt ti) (ya (aq<|some<|aZ 28 false 0 i) (aq d) (aq<|some<|aZ 1 false 0 [af]) (aq q10) (aq q11) ti) (aab day p a.2.2 ds c k)<|Kl 0 46 (dW b.1)<|K1 0 (.frz 4 [1,4,7,26,27,28]) (xC (tM a.2.2.length 4<|ah (f:=av) (fun _=>rfl) a.2.2 0) rt rt rt ti)<|Mf<|f (.inl (b.1+1,g,())) (et (bJ e.1 h) (by exact m.nil (by assumption):(OnA day p a.2.2 ds g)))<|dl h) fun _=>Kl 0 46 (dW b.1)<|K1 0 (.frz 4 [1,4,7,26,27,28]) (xC (tM a.2.2.length 4<|ah (f:=av) (fun _=>rfl) a.2.2 0) rt rt rt ti)<|Mf<|f (.inl (b.1+1,g,())) (et (bJ e.1 h) (by exact m.no (by assumption):(OnA day p a.2.2 ds g)))<|dl h) fun b e f=>let g:=[aI 4 b.2.2.1 0 b.2.2.2.1 none];let h:=List.map aU b.2.2.2.2;Mc b.2.1 (fun d=>have f:=eG e.1 d;have d:=gd (J:=fun b c=>OnR day p a.2.2 ds b c.1 c.2.1 c.2.2) (a:=b.2.2) d e.2;Kh 0 f<|M2 (.ren [0,1,2,4,3] [4,3] []) (tS 28 true b.2.2.1<|aX xw b.2.2.2.2) (tN a.2.2.length<|ah (f:=av) (fun _=>rfl) a.2.2 0)<|M1 (.frz 4 []) (xC (tR 28 true b.2.2.1 4<|aX xw b.2.2.2.2) rt rt rt ti)<|Mf<|et (aq q8) (by(have q:=d.done;rw[show kN L []=a.2.2 from c,q.1,q.2.1,q.2.2]):(ab [AObj.row 1 false 0 [iV day],AObj.row 1 false 0 [AV.str p],AObj.row 1 false 0 [AV.slice 3 b.2.2.1 0 b.2.2.2.1 none],AObj.row 28 true b.2.2.1 (b.2.2.2.2.map aU)])=(ab [iD day,gF p,pD 3 ((qe day p (kN L []) ds ds).length -1) (qe day p (kN L []) ds ds).length,pA ((qe day p (kN L []) ds ds).length -1) (qe day p (kN L []) ds ds)]))) fun c i j=>let k:=[az [iV c.act,iV c.item,iV c.day,iV c.it.kind,aW<|c.it.at_.map aj,aW<|c.it.to.map aj,iV c.it.where_,iV c.it.nth_,iV c.it.unit.act,iV c.it.unit.item,iV c.it.unit.n,iV c.it.unit.kind,aK c.it.unit.label,aW<|c.it.unit.head.map aQ,aW<|c.it.unit.words.map aQ,aW<|c.it.unit.kids.map aV,aW<|c.it.old.map mS,aW<|c.it.new.map mS,aK c.it.label,aK c.it.for_,iV c.it.start.kind,iV c.it.start.day,aK c.it.start.event,iV c.it.act,iV c.it.item,iV c.it.day,aK c.it.event,aW<|c.it.by_.map N7]];let l:=az [iV (aC a.2.2 c.act).kind,iV (aC a.2.2 c.act).day,aK (aC a.2.2 c.act).event];have m:=fJ e.1 j;have:=an m;have n:=eF (enc:=aU) e.1 j;have o:=cw (J:=fun b c=>OnR day p a.2.2 ds b c.1 c.2.1 c.2.2) (a:=b.2.2) j e.2;Kt 0 m<|Mx n<|Kp 5 (jv c.it.kind)<|Mb (ce c.it.kind) (fun _=>Ms (wL day p a.2.2 ds c) (fun d=>K1 4 (.look l) (hlk a.2.2 c.act)<|Kp 1 (gq (aC a.2.2 c.act) c ds<|by(omega))<|M3 (.efx false q8<|ab [aZ 1 false 0 q5,aZ 1 false 0 [aK p],aZ 1 false 0 [aI 4 (b.2.2.1+1) 0 (b.2.2.2.1+1) none],AObj.map (bv av a.2.2 0) a.2.2.length,aZ 28 true (b.2.2.1+1)<|(b.2.2.2.2++[c]).map aU,aZ 28 false 0 k]) (N3 rt (tR 28 true b.2.2.1 6<|aX xw b.2.2.2.2) (tM a.2.2.length 6<|ah (f:=av) (fun _=>rfl) a.2.2 0) rt rt rt ti) ti (Z8 day p a.2.2 ds c b.2.2.1 b.2.2.2.1 b.2.2.2.2 d (by exact o.len)<|by(have z:=o.small;have z2:=o.len;simp only[lC]at z;omega))<|Kl 0 46 (dW b.1)<|K1 0 (.frz 5 [1,4,7,26,27,28]) (ya (tR 28 true (b.2.2.1+1) 5<|aX xw<|b.2.2.2.2++[c]) (tM a.2.2.length 5<|ah (f:=av) (fun _=>rfl) a.2.2 0) rt rt rt ti)<|Mf<|f (.inr (b.1+1,i,(b.2.2.1+1,b.2.2.2.1+1,b.2.2.2.2++[c]))) (et (bJ e.1 j) (by exact o.new (by assumption) (by assumption) rfl:(OnR day p a.2.2 ds i (b.2.2.1+1) (b.2.2.2.1+1) (b.2.2.2.2++[c]))))<|dl j) fun m=>K1 4 (.look l) (hlk a.2.2 c.act)<|Kp 1 (gq (aC a.2.2 c.act) c ds<|by(omega))<|M3 (.efx true q8<|ab [aZ 1 false 0 q5,aZ 1 false 0 [aK p],aZ 1 false 0 g,AObj.map (bv av a.2.2 0) a.2.2.length,aZ 28 true b.2.2.1 h,aZ 28 false 0 k]) (N3 rt (tR 28 true b.2.2.1 6<|aX xw b.2.2.2.2) (tM a.2.2.length 6<|ah (f:=av) (fun _=>rfl) a.2.2 0) rt rt rt ti) (N3 (aq<|some<|aZ 28 false 0 k) (aq<|some<|aZ 28 true b.2.2.1 h) (aq d) (aq<|some<|aZ 1 false 0 g) (aq q10) (aq q11) ti) (Z9 day p a.2.2 ds c b.2.2.1 b.2.2.2.1 b.2.2.2.2 m)<|Kl 0 46 (dW b.1)<|K1 0 (.frz 5 [1,4,7,26,27,28]) (ya (tR 28 true b.2.2.1 5<|aX xw b.2.2.2.2) (tM a.2.2.length 5<|ah (f:=av) (fun _=>rfl) a.2.2 0) rt rt rt ti)<|Mf<|f (.inr (b.1+1,i,(b.2.2.1,b.2.2.2.1,b.2.2.2.2))) (et (bJ e.1 j) (by exact o.nil (by assumption):(OnR day p a.2.2 ds i b.2.2.1 b.2.2.2.1 b.2.2.2.2)))<|dl j) fun _=>Kl 0 46 (dW b.1)<|K1 0 (.frz 5 [1,4,7,26,27,28]) (ya (tR 28 true b.2.2.1 5<|aX xw b.2.2.2.2) (tM a.2.2.length 5<|ah (f:=av) (fun _=>rfl) a.2.2 0) rt rt rt ti)<|Mf<|f (.inr (b.1+1,i,(b.2.2.1,b.2.2.2.1,b.2.2.2.2))) (et (bJ e.1 j) (by exact o.no (by assumption):(OnR day p a.2.2 ds i b.2.2.1 b.2.2.2.1 b.2.2.2.2)))<|dl j) fun d e f g _ h i=>Kt 0 g<|Mx h<|K1 7 (.upd (bv av (g9 d.number d.start a.2.2) 0) (g9 d.number d.start a.2.2).length) (hup a.2.2 d)<|Kl 0 23 (dW a.1)<|K1 0 (.frz 4 [0,1,4,12,13,14]) (xC (tM (g9 d.number d.start a.2.2).length 4<|ah (f:=av) (fun _=>rfl) (g9 d.number d.start a.2.2) 0) rt rt rt ti)<|Mf<|c (a.1+1,e,g9 d.number d.start a.2.2) (et (bJ b.1 f) (by exact i:(kN L []=kN e (g9 d.number d.start a.2.2))))<|dl f
/-- What is in force on a day for a purpose. -/
noncomputable def Zs(day:Int)(p:aO)(L:List PAct)(ds:List PDeed):List PDeed:=qe day p (kN L []) ds ds
theorem Yo(gs:List PGaz)(day:Int)(p:aO)(hc:kD 47 [.ls (gs.map ay),.func (.func 48) [] [.ptr 1 0 0 0,.ptr 0 0 0 0,.ptr 2 0 0 0]] (ab [iD day,gF p,qh]) (.tuple []) (ab [iD day,gF p,qh])):kP 26 [iV day,.str p,.ls (gs.map ay)] (.ls (([]:List PDeed).map aU)):=by
  exact bC Tryz.func26<|Ke 5 hc<|Kf 1 bI
theorem Yn(gs:List PGaz)(day:Int)(p:aO)(X:List PDeed)(k:Nat)(hz:0<X.length)(hb:X.length<2^40)(hc:kD 47 [.ls (gs.map ay),.func (.func 48) [] [.ptr 1 0 0 0,.ptr 0 0 0 0,.ptr 2 0 0 0]] (ab [iD day,gF p,qh]) (.tuple []) (ab [iD day,gF p,pD 3 k X.length,pA k X])):kP 26 [iV day,.str p,.ls (gs.map ay)] (.ls (X.map aU)):=by
  let q:=List.map aU X;exact bC Tryz.func26<|Ke 5 hc<|Mg 1<|M2 (.fsl 0 [] 6 q) ti (cj (aq k) (tA aU X X.length rfl)<|aX xw X)<|Ml 6 (eS q false<|aX xw X)<|Mf<|bd<|aW q
theorem Yp(gs:List PGaz)(L:List PAct)(ds:List PDeed)(day:Int)(p:aO)(hL:L.length<10000)(hd:ds.length<100000)(ha:kP 67 [.ls (gs.map ay)] (.ls (L.map aa)))(hi:kP 68 [.ls (gs.map ay)] (.ls (ds.map aU))):kP 26 [iV day,.str p,.ls (gs.map ay)] (.ls ((Zs day p L ds).map aU)):=by
  by_cases hE:Zs day p L ds=[]
  · rw[hE];exact Yo gs day p (Xl gs L ds day p hL hd ha hi hE)
  · have hl:(Zs day p L ds).length≤ds.length:=List.length_filter_le ..
    exact Yn gs day p _ _ (pT.2 hE) (by omega) (Xi gs L ds day p hL hd ha hi hE)
/-- The book with nothing in it. -/
def vY:TUnit:=⟨0,0,0,0,[],[],[],[]⟩
theorem Ro:OkB vY:=⟨by decide,by decide,fun x hx=>by
  have e:x=vY:=by simpa[vY,bp,dm]using hx
  subst e;exact⟨bH _,bH _⟩⟩
theorem XN(X:List PDeed)(hl:X.length<2^30)(ho:∀d,d∈X→yV d.it):kP 59 [zU,.ls (X.map aU)] (.tuple [eU (dj vY X),.ls ((fk vY X).map ic)]):=
  (Sb vY X Ro hl ho).args (.cons (wq _ _ (by kernel_rfl)).1 (.cons (Le.refl _) .nil))
theorem RI(X:List PDeed)(hl:X.length<2^30)(ho:∀d,d∈X→yV d.it):kP 37 [.ls (X.map aU)] (.tuple [eU (dj vY X),.ls ((fk vY X).map ic)]):=by
  have h:=XN X hl ho
  exact bC Tryz.func37<|Kp 3 h<|Kf 3<|bd<|eV [az [iV (dj vY X).act,iV (dj vY X).item,iV (dj vY X).n,iV (dj vY X).kind,aK (dj vY X).label,aW<|List.map aQ (dj vY X).head,aW<|List.map aQ (dj vY X).words,aW<|List.map aV (dj vY X).kids],aW<|(fk vY X).map ic]
theorem U4(gs:List PGaz)(day:Int)(p:aO)(X:List PDeed)(hon:kP 26 [iV day,.str p,.ls (gs.map ay)] (.ls (X.map aU))):kP 36 [iV day,.str p,.ls (gs.map ay)] (.ls (X.map aU)):=by
  exact bC Tryz.func36<|Kp 3 hon<|Kf 0<|bd<|aW<|X.map aU
theorem SQ(gs:List PGaz)(day:Int)(p:aO)(X:List PDeed)(hl:X.length<2^30)(ho:∀d,d∈X→yV d.it)(hon:kP 26 [iV day,.str p,.ls (gs.map ay)] (.ls (X.map aU))):kP 14 [iV day,.str p,.ls (gs.map ay)] (eU (dj vY X)):=by
  have h1:=U4 gs day p X hon
  have h2:=RI X hl ho
  exact bC Tryz.func14<|Kp 3 h1<|Mp h2<|Kf 7<|bd<|az [iV (dj vY X).act,iV (dj vY X).item,iV (dj vY X).n,iV (dj vY X).kind,aK (dj vY X).label,aW<|List.map aQ (dj vY X).head,aW<|List.map aQ (dj vY X).words,aW<|List.map aV (dj vY X).kids]
theorem Pp(l m:List PWord)(hl:l.length<2^60)(hm:m.length<2^60):kP 42 [.ls (l.map aQ),.ls (m.map aQ)] (.bool (cE DW l m)):=by
  have rr0 b' (h:(cE DW l m)=b':=by first|exact mR eP hj0|exact lz eP|(rw[ib zD0 hr0 eP hj0];simp only[DW,aS,aw,bS, *];first|done|rfl)):=h;exact bC Tryz.func42<|Kl 2 7 (ln aQ l)<|Kl 1 9 (ln aQ m)<|Kc 0 (Int.ofNat l.length) (Int.ofNat m.length) (fun _ _=>Ky 0<|rr0 false) fun _ _=>Mg 0<|tK aQ l [0,1,5] (fun a _=>([aW<|l.map aQ,aW<|m.map aQ,nV a],[])) (fun a=>cE DW l m=cE DW a (m.drop<|l.length-a.length)) (by(exact At)) (fun _ _ zD0 _ hr0 a hj0=>Kl 2 13 (ln aQ l)<|Kh 0 a<|Ky 0<|rr0 true) fun a _ zD0 _ b c d hr0 e _ f hj0=>Kl 2 13 (ln aQ l)<|Kt 0 e<|Kx 1 f<|Kx 2 (bZ aQ (by(simp only[oN,lM,lS]at *;omega):a<(m).length))<|Kv 0 (ym (d:=(Tryz.prog).underlying 102) (n:=4) (l:=(0,2)::(1,1)::(2,1)::(3,1)::[]) (xs:=[aK b.text,iV b.act,iV b.item,iV b.at_]) (ys:=[aK (gD m a).text,iV (gD m a).act,iV (gD m a).item,iV (gD m a).at_]) (H:=AHeap.mk 1000000 Tr.nil) rfl<|mN (e:=dS b.text (gD m a).text) rfl rfl rfl<|mN (e:=al b.act (gD m a).act) rfl rfl rfl<|mN (e:=al b.item (gD m a).item) rfl rfl rfl<|As (e:=al b.at_ (gD m a).at_) rfl rfl rfl rfl)<|Mn (dS b.text (gD m a).text &&(al b.act (gD m a).act &&(al b.item (gD m a).item &&al b.at_ (gD m a).at_))) (fun _=>Kf 0<|ch<|rr0 false) fun _=>Kl 1 16 (dW a)<|Kf 0<|d<|by(rw[ib zD0 hr0 (by(simp only[oN]at *;omega)) hj0];simp only[DW,aS,aw,bS, *];first|done|rfl)
theorem Wz:∀(u:TUnit),pW u→∀v,pW v→kP 20 [eU u,eU v] (.bool (Ao u v)):=by
  refine TUnit.ind fun u ih hu v hv=>?_
  obtain⟨u1,u2,u3,u4⟩:=lU.1 hu
  obtain⟨v1,v2,v3,v4⟩:=lU.1 hv
  have hh:=Pp u.head v.head u1 v1
  have hw:=Pp u.words v.words u2 v2
  have hk:∀a,a∈u.kids→∀b,b∈v.kids→kP 20 [eU a,eU b] (.bool (Ao a b)):=fun a ha b hb=>ih a ha (u4 a ha) b (v4 b hb)
  have rr0 b' (h:(Ao u v)=b':=by(rw[Rd];first|(rw[mR (by(simp only[oN]at *;omega)) hj0];simp only[bg,bz,bw,aS,aw,bS, *];done)|(rw[show cE Ao u.kids v.kids=false from lz (by(simp only[oN]at *;omega))];simp only[bg,bz,bw,aS,aw,bS, *];done)|(rw[ib zD0 hr0 (by(simp only[oN]at *;omega)) hj0];simp only[bg,bz,bw,aS,aw,bS, *];done)|(simp only[bg,bz,bw,aS,aw,bS, *];first|done|rfl))):=h;exact bC Tryz.func20<|Kv 6 (EQ ((Tryz.prog).underlying 34) u.act u.item u.n v.act v.item v.n<|ab [aZ 8 false 0 [az [iV u.act,iV u.item,iV u.n,iV u.kind,aK u.label,aW<|u.head.map aQ,aW<|u.words.map aQ,aW<|u.kids.map aV]],aZ 8 false 0 [az [iV v.act,iV v.item,iV v.n,iV v.kind,aK v.label,aW<|v.head.map aQ,aW<|v.words.map aQ,aW<|v.kids.map aV]]])<|Kn 0 (al u.act v.act&&(al u.item v.item&&al u.n v.n)) (fun c=>Mt (bO c)<|Mt (bO c)<|Mt (bO c)<|Mt (bO c)<|MV (bO c)<|Ky 9<|rr0 false) fun c=>Kh 0 (bN c)<|Kh 0 (bN c)<|Kh 0 (bN c)<|Kh 0 (bN c)<|Kw 0 (bN c)<|Kc 0 u.kind v.kind (fun c _=>Mt (bO c)<|Mt (bO c)<|Mt (bO c)<|Mt (bO c)<|MV (bO c)<|Ky 7<|rr0 false) fun c _=>Kh 0 (bN c)<|Kh 0 (bN c)<|Kh 0 (bN c)<|Kh 0 (bN c)<|Kw 0 (bN c)<|Kn 0 (dS u.label v.label) (fun c=>Mt (bO c)<|Mt (bO c)<|Mt (bO c)<|Mt (bO c)<|Mt (bO c)<|MV (bO c)<|Ky 5<|rr0 false) fun c=>Kh 0 (bN c)<|Kh 0 (bN c)<|Kh 0 (bN c)<|Kh 0 (bN c)<|Mp hh<|Mh (bN c)<|Kw 0 (bN c)<|Kn 0 (cE DW u.head v.head) (fun c=>Mt (bO c)<|Mt (bO c)<|Mt (bO c)<|Mt (bO c)<|Mt (bO c)<|MV (bO c)<|Ky 3<|rr0 false) fun c=>Kh 0 (bN c)<|Kh 0 (bN c)<|Kh 0 (bN c)<|Kh 0 (bN c)<|Mp hw<|Mh (bN c)<|Kw 0 (bN c)<|Kn 0 (cE DW u.words v.words) (fun c=>Mt (bO c)<|Mt (bO c)<|Mt (bO c)<|Mt (bO c)<|Mt (bO c)<|Mt (bO c)<|MV (bO c)<|Ky 1<|rr0 false) fun c=>Kh 0 (bN c)<|Kh 0 (bN c)<|Kl 0 44 (ln aV u.kids)<|Mh (bN c)<|Kh 0 (bN c)<|Kh 0 (bN c)<|Kl 0 47 (ln aV v.kids)<|Mh (bN c)<|Kw 0 (bN c)<|Mn (al (Int.ofNat u.kids.length)<|Int.ofNat v.kids.length) (fun c=>have:=Hz c;Ky 0<|rr0 false) fun c=>have:=kV c;Mg 0<|tK aV u.kids [2,3,5] (fun c _=>([bY 0 0 0 0,bY 1 0 0 0,nV c],[aZ 8 false 0 [az [iV u.act,iV u.item,iV u.n,iV u.kind,aK u.label,aW<|u.head.map aQ,aW<|u.words.map aQ,aW<|u.kids.map aV]],aZ 8 false 0 [az [iV v.act,iV v.item,iV v.n,iV v.kind,aK v.label,aW<|v.head.map aQ,aW<|v.words.map aQ,aW<|v.kids.map aV]]])) (fun c=>cE Ao u.kids v.kids=cE Ao c (v.kids.drop<|u.kids.length-c.length)) (by(exact At)) (fun _ _ zD0 _ hr0 c hj0=>Kl 3 53 (ln aV u.kids)<|Kh 0 c<|Ky 0<|rr0 true) fun c _ zD0 _ d e f hr0 g _ i hj0=>have i:=i.trans<|congrArg some<|aR d;Kl 3 53 (ln aV u.kids)<|Kt 0 g<|Kx 2 i<|Kx 3 ((bZ aV (by(simp only[oN,lM,lS]at *;omega):c<(v.kids).length)).trans<|congrArg some<|aR _)<|Kp 0 (hk d (by exact bQ zD0 hr0) (gD v.kids c)<|by exact fI (by(simp only[oN]at *;omega)))<|Kn 0 (Ao d<|gD v.kids c) (fun _=>Kf 0<|ch<|rr0 false) fun _=>Kl 1 56 (dW c)<|Kf 0<|f<|by(rw[ib zD0 hr0 (by(simp only[oN]at *;omega)) hj0];simp only[aS,aw,bS, *];first|done|rfl)
/-- What the bound on gazettes tells. -/
structure OkG(gs:List PGaz):Prop where
  fit:pm gs
  len:gs.length≤9
  acts:∀g,g∈gs→g.acts.length≤20
  items:∀g,g∈gs→∀a,a∈g.acts→a.items.length≤40∧∀x,x∈a.items→mL x=true
theorem HW{most:Int}:∀(l:List PAct)(n m:Int),most=24→0≤n→lP most l n=some m→0≤m∧∀a,a∈l→a.items.length≤24∧∀x,x∈a.items→mL x=true
  |[],n,m,_,hn,h=>by simp only[lP,xm]at h;exact⟨h▸hn,fun a ha=>by cases ha⟩
  | b::r,n,m,hm,hn,h=>by
    unfold lP at h
    cases hb:Be most n b with
    |true=>rw[hb]at h;cases h
    | false=>
      rw[hb]at h
      unfold Be at hb
      simp only[CJ]at hb
      obtain⟨z1,_,_,z2⟩:=hb
      have z1:=aF z1
      obtain⟨q1,q2⟩:=HW r (n+Int.ofNat b.items.length) m hm (by simp only[oN]at *;omega) h
      refine⟨q1,fun a ha=>?_⟩
      rcases fw.1 ha with rfl|ha
      · refine⟨by simp only[oN]at *;omega,fun x hx=>?_⟩
        have z3:=qf z2
        exact nK.1 z3 x hx
      · exact q2 a ha
theorem LB:∀(l:List PGaz)(n:Int),0≤n→uf 24 l n=true→∀g,g∈l→g.acts.length≤8∧∀a,a∈g.acts→a.items.length≤24∧∀x,x∈a.items→mL x=true
  |[],_,_,_,g,hg=>by cases hg
  | x::r,n,hn,h,g,hg=>by
    unfold uf at h
    cases hb:vT x with
    |true=>rw[hb]at h;cases h
    | false=>
      rw[hb]at h
      cases ha:lP 24 x.acts n with
      |none=>rw[ha]at h;cases h
      | some m=>
        rw[ha]at h
        obtain⟨q1,q2⟩:=HW x.acts n m rfl hn ha
        rcases fw.1 hg with rfl|hg
        · unfold vT at hb
          have:=aF (CJ.1 hb).1
          exact⟨by simp only[oN]at *;omega,q2⟩
        · exact LB r m q1 h g hg
theorem Wg{gs:List PGaz}{p:aO}(hf:pm gs)(h:NT gs p=true):OkG gs∧gs.length≤8:=by
  unfold NT at h
  have h1:=(pN.1 h).1
  unfold N0 at h1
  cases hb:au 8 (Int.ofNat gs.length)with
  |true=>rw[hb]at h1;cases h1
  | false=>
    rw[hb]at h1
    have:=aF hb
    have hl:gs.length≤8:=by simp only[oN]at *;omega
    have q:=LB gs 0 (by omega) h1
    exact⟨⟨hf,by omega,fun g hg=>bR (q g hg).1 (by decide),fun g hg a ha=>⟨bR ((q g hg).2 a ha).1 (by decide),((q g hg).2 a ha).2⟩⟩,hl⟩
theorem OkG.sub{gs hs:List PGaz}(h:OkG gs)(hl:hs.length≤9)(hm:∀g,g∈hs→g∈gs):OkG hs:=
  ⟨⟨by omega,fun g hg=>h.fit.2 g (hm g hg)⟩,hl,fun g hg=>h.acts g (hm g hg),fun g hg=>h.items g (hm g hg)⟩
theorem Ca:∀(ys out:List PAct),(ys.foldl jT out).length≤out.length+ys.length
  |[],out=>ar _
  | a::r,out=>by
    have:=Ca r (jT out a);have:=(PY out a).2
    simp only[mc,lC];omega
theorem Ag:∀(gs:List PGaz),(∀g,g∈gs→g.acts.length≤20)→∀out,(bV gs out).length≤out.length+20*gs.length
  |[],_,out=>ar _
  | g::r,hb,out=>by
    have:=Ag r (fun x hx=>hb x (e9 _ hx)) (g.acts.foldl jT out)
    have:=Ca g.acts out
    have:=hb g (eT ..)
    simp only[bV,mc,lC]at *
    omega
theorem PV{out:List PAct}{a b:PAct}(h:b∈jT out a):b∈out∨b=a:=by
  unfold jT at h
  split at h
  · exact .inl h
  · rcases iR.1 h with h|h
    · exact .inl h
    · exact .inr (nN.1 h)
theorem Cy:∀(ys out:List PAct)(b:PAct),b∈ys.foldl jT out→b∈out∨b∈ys
  |[],out,b,h=>.inl h
  | a::r,out,b,h=>by
    rcases Cy r (jT out a) b h with h|h
    · rcases PV h with h|rfl
      · exact .inl h
      · exact .inr (eT ..)
    · exact .inr (e9 _ h)
theorem Af:∀(gs:List PGaz)(out:List PAct)(b:PAct),b∈bV gs out→b∈out∨∃g,g∈gs∧b∈g.acts
  |[],out,b,h=>.inl h
  | g::r,out,b,h=>by
    rcases Af r (g.acts.foldl jT out) b h with h|⟨g2,q1,q2⟩
    · rcases Cy g.acts out b h with h|h
      · exact .inl h
      · exact .inr ⟨g,eT ..,h⟩
    · exact .inr ⟨g2,e9 _ q1,q2⟩
theorem vX:∀(l:List PAct),(∀a,a∈l→a.items.length≤40)→(m7 l).length≤40*l.length
  |[],_=>ar _
  | a::r,h=>by
    have:=vX r fun b hb=>h b (e9 _ hb)
    have:=h a (eT ..)
    simp only[m7,List.flatMap_cons,lA,lk,lC]at *
    omega
theorem OkG.act{gs:List PGaz}(h:OkG gs){a:PAct}(ha:a∈gC gs):a.items.length≤40∧(∀x,x∈a.items→mL x=true)∧Rq a:=by
  have ha:=(py gs).mem_iff.1 ha
  rcases Af gs [] a ha with q|⟨g,h1,h2⟩
  · cases q
  · exact⟨(h.items g h1 a h2).1,(h.items g h1 a h2).2,(h.fit.2 g h1).2 a h2⟩
/-- The items as they stand. -/
noncomputable def pz(gs:List PGaz):List PDeed:=bP (aE (gC gs) []) (gC gs)
theorem OkG.lens{gs:List PGaz}(h:OkG gs):(gC gs).length≤180∧(pz gs).length≤7200:=by
  have h1:=Ag gs h.acts []
  have h2:=(py gs).length_eq
  have h3:=vX (gC gs) fun a ha=>(h.act ha).1
  have h4:=h.len
  have h5:(pz gs).length=(m7 (gC gs)).length:=b9 ..
  simp only[lN]at h1
  omega
theorem OkG.all{gs:List PGaz}(h:OkG gs):kP 67 [.ls (gs.map ay)] (.ls ((gC gs).map aa))∧kP 68 [.ls (gs.map ay)] (.ls ((pz gs).map aU)):=by
  have h1:=h.lens
  have h2:=(py gs).length_eq
  have h3:(pz gs).length=(m7 (gC gs)).length:=b9 ..
  have h4:=h.len
  exact⟨MK gs h.fit (fun g hg=>nJ (h.acts g hg) (by decide)) (by omega) (by omega),Qp gs h.fit (fun g hg=>nJ (h.acts g hg) (by decide)) (by omega) (by omega) (fun a ha=>nJ (h.act ha).1 (by decide)) (by omega)⟩
theorem Xu{x y:PItem}(h:mL x=true)(hy:y∈x.by_):mL y=true:=by
  rw[Ei]at h
  simp only[bx]at h
  have:=nK.1 h.2.2.2.2.2 y hy
  unfold HH at this
  exact(pN.1 this).2
theorem Xt{x y:PItem}(h:nZ x)(hy:y∈x.by_):nZ y:=(qB.1 h).2.2.2.2.2.2 y hy
theorem FD{K V:Type}{keq:K→K→Bool}{k:K}{v:V}:∀{l:List (K×V)}{e:K×V},e∈fC keq k v l→e∈l∨e.2=v
  | [],e,h=>by
    rw[fC,nN]at h;exact .inr (by rw[h])
  | (j,u)::r,e,h=>by
    rw[fC]at h
    cases q:keq k j with
    | true=>
      rw[q]at h
      rcases fw.1 h with h|h
      · exact .inr (by rw[h])
      · exact .inl (e9 _ h)
    | false=>
      rw[q]at h
      rcases fw.1 h with h|h
      · exact .inl (by rw[h];exact eT ..)
      · rcases FD (l:=r) h with h|h
        · exact .inl (e9 _ h)
        · exact .inr h
theorem GP{K V:Type}{keq:K→K→Bool}{k:K}{v:V}:∀{l:List (K×V)},nL keq k l=some v→∃e,e∈l∧e.2=v
  |[],h=>by cases h
  | (j,u)::r,h=>by
    rw[nL]at h
    cases q:keq k j with
    |true=>rw[q]at h;exact⟨(j,u),eT ..,JS h⟩
    | false=>
      rw[q]at h
      obtain⟨e,h1,h2⟩:=GP (l:=r) h
      exact⟨e,e9 _ h1,h2⟩
theorem OZ{m:List ((Int×Int)×PItem)}{x:PItem}(hm:∀e,e∈m→yV e.2)(h1:mL x=true)(h2:nZ x):∀e,e∈jo m x→yV e.2:=by
  unfold jo
  split
  · rename_i h
    simp only[bx]at h
    have hl:=an h.1.2
    have hy:gD x.by_ 0∈x.by_:=fI (by simp only[oN]at hl;omega)
    intro e he
    rcases FD he with q|q
    · exact hm e q
    · rw[q];exact QQ (Xt h2 hy) (Xu h1 hy)
  · exact hm
theorem Dj:∀(xs:List PItem)(m:List ((Int×Int)×PItem)),(∀e,e∈m→yV e.2)→(∀x,x∈xs→mL x=true∧nZ x)→∀e,e∈xs.foldl jo m→yV e.2
  |[],_,hm,_=>hm
  |x::r,m,hm,h=>Dj r (jo m x) (OZ hm (h x (eT ..)).1 (h x (eT ..)).2) fun y hy=>h y (e9 _ hy)
theorem Dx:∀(l:List PAct)(m:List ((Int×Int)×PItem)),(∀e,e∈m→yV e.2)→(∀a,a∈l→∀x,x∈a.items→mL x=true∧nZ x)→∀e,e∈aE l m→yV e.2
  |[],_,hm,_=>hm
  |a::r,m,hm,h=>Dx r (a.items.foldl jo m) (Dj a.items m hm (h a (eT ..))) fun b hb=>h b (e9 _ hb)
theorem AH(a:PAct):∀(l:List PItem)(i:Nat)(d:PDeed),d∈cJ a l i→d.it∈l
  |[],_,d,h=>by cases h
  | x::r,i,d,h=>by
    rcases fw.1 h with rfl|h
    · exact eT ..
    · exact e9 _ (AH a r _ d h)
theorem OkG.deed{gs:List PGaz}(h:OkG gs){d:PDeed}(hd:d∈pz gs):yV d.it:=by
  have hi:∀a,a∈gC gs→∀x,x∈a.items→mL x=true∧nZ x:=fun a ha x hx=>⟨(h.act ha).2.1 x hx,(h.act ha).2.2.2 x hx⟩
  obtain⟨o,ho,rfl⟩:=ka.1 hd
  obtain⟨a,ha,hoa⟩:=List.mem_flatMap.1 ho
  have h1:=hi a ha _ (AH a _ _ _ hoa)
  have h2:yV o.it:=QQ h1.2 h1.1
  unfold nQ
  split
  · rename_i hc
    have hc:=(pN.1 hc).1
    unfold qr at hc
    show yV (Ix (aE (gC gs) []) o)
    unfold Ix
    cases q:nL pV (o.act,o.item) (aE (gC gs) [])with
    |none=>rw[q]at hc;cases hc
    | some v=>
      obtain⟨e,e1,e2⟩:=GP q
      have:=Dx (gC gs) [] (fun e he=>by cases he) hi e e1
      rw[e2]at this
      exact this
  · exact h2
/-- What is in force. -/
noncomputable def qA(day:Int)(p:aO)(gs:List PGaz):List PDeed:=Zs day p (gC gs) (pz gs)
noncomputable def jZ(day:Int)(p:aO)(gs:List PGaz):TUnit:=dj vY (qA day p gs)
theorem OkG.force{gs:List PGaz}(h:OkG gs)(day:Int)(p:aO):(qA day p gs).length<2^30∧(∀d,d∈qA day p gs→yV d.it)∧kP 26 [iV day,.str p,.ls (gs.map ay)] (.ls ((qA day p gs).map aU)):=by
  have hl:=h.lens
  have h1:(qA day p gs).length≤(pz gs).length:=List.length_filter_le ..
  exact⟨by omega,fun d hd=>h.deed (List.mem_filter.1 hd).1,Yp gs _ _ day p (by omega) (by omega) h.all.1 h.all.2⟩
theorem OkG.book{gs:List PGaz}(h:OkG gs)(day:Int)(p:aO):kP 14 [iV day,.str p,.ls (gs.map ay)] (eU (jZ day p gs)):=
  SQ gs day p _ (h.force day p).1 (h.force day p).2.1 (h.force day p).2.2
theorem OkG.okB{gs:List PGaz}(h:OkG gs)(day:Int)(p:aO):OkB (jZ day p gs):=HM Ro (h.force day p).2.1
end Go.Proofs.YtaepacpodblomaaGreatDoor
