/- Functions walked: what each of them answers, for the law of the book's root: part 7. Conditions: those that each theorem names. -/
import Derived.Test.YtjokefckffbpeaaGreatDoorH6
namespace Go.Proofs.YtjokefckffbpeaaGreatDoor
open Go Go.Ev
noncomputable abbrev nO(ep:Nat)(out:List Int):AObj:=.row 1 true ep (out.map ak)
theorem wE:kP 20 [.nils] (.ls ((iX []).map aJ)):=(gN [] (by simp)).onArgs (.cons Le.nils .nil)
theorem DY{g:Int→Bool}{K:List Int}{x e:Nat}{S:List PSpan}(h:S=kJ g (K.drop (x-1)))(h1:1≤x)(h2:x<K.length)(hg:g (gD K (x-1))=true)(he:e=x+1):S=⟨gD K (x-1),gD K x⟩::kJ g (K.drop (e-1)):=by rw[h,BS h1 h2,hg,he]
theorem DU{g:Int→Bool}{K:List Int}{x e:Nat}{S:List PSpan}(h:S=kJ g (K.drop (x-1)))(h1:1≤x)(h2:x<K.length)(hg:g (gD K (x-1))=false)(he:e=x+1):S=kJ g (K.drop (e-1)):=by rw[h,BS h1 h2,hg,he]
theorem YD:bZ (c8 (pa []))=[]:=qJ (by have z:=Aa [];exact Nat.le_zero.1 z)
theorem XJ{A B x y:List PSpan}(h1:A=x)(h2:B=y):x++y=A++B:=by rw[h1,h2]
theorem RH{A B x:List PSpan}(h1:A=x)(h2:B=[]):x=A++B:=by rw[h1,h2,ec]
theorem Vp{A B y:List PSpan}(h1:A=[])(h2:B=y):y=A++B:=by rw[h1,h2];rfl
theorem TA{A r:List PSpan}{w:PSpan}(h:A=w::r)(hl:A.length≤1048577):r.length<2^30:=by rw[h,lC]at hl;omega
theorem SN{A B:List PSpan}{w v:PSpan}{r s:List PSpan}(h:A=w::r)(k:B=v::s)(hl:A.length≤1048577)(kl:B.length≤1048577):small (r.length+1+((v::s).map aJ).length) 16=true:=by
  rw[h,lC]at hl;rw[k,lC]at kl
  rw[lM,lC];refine cJ (m:=2^31) ?_ ?_ ?_<;>omega
theorem JP{B:List PSpan}{v:PSpan}{s:List PSpan}(k:B=v::s)(kl:B.length≤1048577):small ((v::s).map aJ).length 16=true:=by
  rw[k,lC]at kl
  rw[lM,lC];refine cJ (m:=2^31) ?_ ?_ ?_<;>omega
def RP(F:Nat)(A:List PSpan)(B:List PSpan)(z20:List PSpan):Prop:=z20=A++B
noncomputable def RO(F:Nat)(A:List PSpan)(B:List PSpan)(z20:List PSpan):List AV×List AObj:=([AV.ls (A.map aJ),AV.ls (B.map aJ),AV.func (Fn.func F) [] [],AV.nils,AV.ls (z20.map aJ),nV z20.length,iV 0],[])
def NP(F:Nat)(A:List PSpan)(B:List PSpan)(z20:List PSpan)(z37:List Int):Prop:=z37=ie z20
noncomputable def NO(F:Nat)(A:List PSpan)(B:List PSpan)(z20:List PSpan)(z37:List Int):List AV×List AObj:=([AV.ls (A.map aJ),AV.ls (B.map aJ),AV.func (Fn.func F) [] [],AV.ls (z37.map ak)],[])
def NN(F:Nat)(A:List PSpan)(B:List PSpan)(z20:List PSpan)(z37:List Int):Prop:=z37=ie z20
noncomputable def NM(F:Nat)(A:List PSpan)(B:List PSpan)(z20:List PSpan)(z37:List Int):List AV×List AObj:=([AV.ls (A.map aJ),AV.ls (B.map aJ),AV.func (Fn.func F) [] [],AV.ls (z37.map ak)],[])
theorem Lo(F:Nat)(op:Bool→Bool→Bool)(hF:∀x y,aM Tryz.prog G F [.bool x,.bool y] (.bool (op x y)))(e0:op false false=false)(a b:List PSpan)(ha:a.length<2^30)(hb:b.length<2^30):
    aM Tryz.prog G 138 [.ls (a.map aJ),.ls (b.map aJ),.func (.func F) [] []] (.ls ((sV op a b).map aJ)):=by
  have nA:=gN a ha
  have nB:=gN b hb
  have hA:=kM a
  have hB:=kM b
  have hd:=NR e0 (a:=a) (b:=b) rfl rfl
  generalize iX a=A at *
  generalize iX b=B at *
  have lA:=hA.len
  have lB:=hB.len
  have hasA:∀d,aM Tryz.prog G 111 [.ls (A.map aJ),.int .i64 d] (.bool (iF A d)):=fun d=>IL A d hA.sort (by omega)
  have hasB:∀d,aM Tryz.prog G 111 [.ls (B.map aJ),.int .i64 d] (.bool (iF B d)):=fun d=>IL B d hB.sort (by omega)
  obtain⟨g,hg⟩:∃g:Int→Bool,g=fun d=>op (iF A d) (iF B d):=⟨_,rfl⟩
  have hgv:∀d v0,op (iF A d) (iF B d)=v0→g d=v0:=fun d v0 h=>by rw[hg];exact h
  rw[←hg]at hd
  have hcl:∀x,x=A++B→(ie x).length<2^30:=fun x hx=>by
    have z:=Aa x
    rw[hx,eX]at z
    rw[hx];omega
  have hll:∀x,x=A++B→x.length<2^22:=fun x hx=>by rw[hx,eX];omega
  obtain⟨res,hres⟩:∃res,res=sV op a b:=⟨_,rfl⟩
  rw[←hres]at hd ⊢
  have hdone:∀x y z,x=A++B→y=ie x→kJ g y=z→iX z=res:=fun x y z h1 h2 h3=>by rw[←h3,h2,h1];exact hd
  clear hd hg hres hA hB
  have rr0 b' (h:(List.map aJ res)=b':=by first|rfl|exact hdone _ _ _ hz20 hz37 (by rw[hx1.2.2,lJ hx1.1 (by(first|omega|(simp only[aN]at *;omega)))])|exact(hdone _ _ _ hz20 hz37 (by rw[hx1.2.2.2.2,lJ hx1.1 (by(first|omega|(simp only[aN]at *;omega))),ec]))|(rw[hdone _ _ _ hz20 hz37 (by rw[hx1.2.2,lJ hx1.1 (by(first|omega|(simp only[aN]at *;omega)))])])|(rw[hdone _ _ _ hz20 hz37 (by rw[hx1.2.2.2.2,lJ hx1.1 (by(first|omega|(simp only[aN]at *;omega))),ec])])):=h;exact bI Tryz.func138<|Kp 1 nA<|Kp 0 nB<|Mg 2<|M0 .inn<|Mj (List PSpan) [0,1,2,7,20,21,22] (RO F A B) (RP F A B) (fun c=>Mg 0<|Mc A (fun e=>Ml 17 (fk<|by rw[e];rfl:Le (aW []) (aW (List.map aJ A)))<|Mz 17 (fun(_:([]:List AV)=[])=>Mg 1<|Mc B (fun e=>Ml 19 (fk<|by rw[e];rfl:Le (aW []) (aW (List.map aJ B)))<|Kl 0 20 be<|Kf 1<|c [] (by exact RH (by assumption) (by assumption):[]=A++B)) fun e f i=>Ml 19 (fk<|by rw[i]:Le (aW (List.map aJ (e::f))) (aW (List.map aJ B)))<|M2 .apl (et (by exact mW _ _:List.map aJ (e::f)≠[])<|fM 2 aJ (e::f) fun _=>rfl) (by exact JP (by assumption) lB:small (List.map aJ (e::f)).length 16=true)<|M2 (.fsl 0 [0,1,2,7] 20<|List.map aJ<|e::f) True.intro (bT (aY 0) (tA aJ (e::f) (List.map aJ<|e::f).length (by(simp only[b7,cT,eX];done):(e::f).length=(List.map aJ (e::f)).length))<|aX Vi<|e::f)<|Ml 20 (e9 (List.map aJ<|e::f) false<|aX Vi<|e::f)<|Kl 0 21 (ln aJ<|e::f)<|Kf 0<|c (e::f) (by exact Vp (by assumption) (by assumption):e::f=A++B))<|Mg 1<|Mc B (fun e=>Ml 19 (fk<|by rw[e];rfl:Le (aW []) (aW (List.map aJ B)))<|Kl 0 20 (e9 [] true (aY 0:aq ([])=0))<|Kf 1<|c [] (by exact RH (by assumption) (by assumption):[]=A++B)) fun e f i=>Ml 19 (fk<|by rw[i]:Le (aW (List.map aJ (e::f))) (aW (List.map aJ B)))<|M2 .apl (et (by exact mW _ _:List.map aJ (e::f)≠[])<|fM 2 aJ (e::f) fun _=>rfl) (by exact JP (by assumption) lB:small (List.map aJ (e::f)).length 16=true)<|M2 (.fsl 0 [0,1,2,7] 20<|List.map aJ<|e::f) True.intro (bT (aY 0) (tA aJ (e::f) (List.map aJ<|e::f).length (by(simp only[b7,cT,eX];done):(e::f).length=(List.map aJ (e::f)).length))<|aX Vi<|e::f)<|Ml 20 (e9 (List.map aJ<|e::f) false<|aX Vi<|e::f)<|Kl 0 21 (ln aJ<|e::f)<|Kf 0<|c (e::f) (by exact Vp (by assumption) (by assumption):e::f=A++B)) fun e f i=>Ml 17 (fk<|by rw[i]:Le (aW (List.map aJ (e::f))) (aW (List.map aJ A)))<|Me (Rp e f<|by exact TA (by assumption) lA)<|Mg 0<|Mc B (fun i=>Ml 19 (fk<|by rw[i];rfl:Le (aW []) (aW (List.map aJ B)))<|Mg 0<|M2 (.fsl 0 [0,1,2,7] 20<|List.map aJ<|e::f) True.intro (bT (aY 0) (tA aJ (e::f) (f.length+1) rfl)<|aX Vi<|e::f)<|Ml 20 (e9 (List.map aJ<|e::f) false<|aX Vi<|e::f)<|Kl 0 21 (ln aJ<|e::f)<|Kf 0<|c (e::f) (by exact RH (by assumption) (by assumption):e::f=A++B)) fun i j k=>Ml 19 (fk<|by rw[k]:Le (aW (List.map aJ (i::j))) (aW (List.map aJ B)))<|M2 .apl (et (by exact mW _ _:List.map aJ (i::j)≠[])<|fM 2 aJ (i::j) fun _=>rfl) (bT (aY 0) (by(simp only[b7,cT,eX];done):f.length+1=(List.map aJ (e::f)).length) (by exact SN (by assumption) (by assumption) lA lB:small (f.length+1+(List.map aJ (i::j)).length) 16=true))<|M1 (.obj 0<|aZ 2 true (0+1)<|List.map aJ<|e::f++i::j) (congrArg (aZ 2 true<|0+1)<|ce (f:=aJ) (l:=e::f) (ws:=i::j))<|M2 (.fsl 0 [0,1,2,7] 20<|List.map aJ<|e::f++i::j) True.intro (bT (aY<|0+1) (tA aJ (e::f++i::j) (f.length+1+(List.map aJ<|i::j).length) (by(simp only[b7,cT,eX];done):(e::f++i::j).length=f.length+1+(List.map aJ (i::j)).length))<|aX Vi<|e::f++i::j)<|Ml 20 (e9 (List.map aJ<|e::f++i::j) false<|aX Vi<|e::f++i::j)<|Kl 0 21 (ln aJ<|e::f++i::j)<|Kf 0<|c (e::f++i::j) (by exact XJ (by assumption) (by assumption):e::f++i::j=A++B)) fun c hz20=>have hz20:=hz20;kg Nat Nat (List Int) aJ c [0,1,2,7,20,21,22] (fun e _=>([aW<|A.map aJ,aW<|B.map aJ,bY (bV F) [] [],ay,aW<|c.map aJ,nV c.length,nV e],[])) (fun e _ f i j=>([aW<|A.map aJ,aW<|B.map aJ,bY (bV F) [] [],aD 0 f 0 i none,aW<|c.map aJ,nV c.length,nV e],[aZ 1 true f<|j.map ak])) (fun e=>pa c=pa e) (fun e _ f i=>f=i.length∧(0:Nat)<i.length∧pa c=i++pa e) (by rfl) (fun _ _ _ _ _ e f=>Kh 0 e<|Kp 0 F8<|Mj (List Int) [0,1,2,7] (NO F A B c) (NP F A B c) (fun e=>Kl 1 37 be<|Kf 0<|e [] (by(unfold ie;rw[f];exact YD.symm):[]=ie c)) fun e hz37=>have hz37:=hz37;have:=hz37▸hcl _ hz20;Mg 1<|Sb Nat Nat Nat (List PSpan) (1:Nat) [0,1,2,7,10,11] (fun c=>([aW<|A.map aJ,aW<|B.map aJ,bY (bV F) [] [],aW<|e.map ak,ay,nV c],[])) (fun c f i j=>([aW<|A.map aJ,aW<|B.map aJ,bY (bV F) [] [],aW<|e.map ak,aD 0 f 0 i none,nV c],[aZ 2 true f<|j.map aJ])) (fun c=>(1:Nat)≤c∧c≤2^30∧kJ g e=kJ g (e.drop<|c-1)) (fun c _ f i=>(1:Nat)≤c∧c≤2^30∧f=i.length∧i.length<c∧kJ g e=i++kJ g (e.drop<|c-1)) (fun c=>2^31-c) (fun c _ _ _=>2^31-c) (by exact⟨ao _,by omega,rfl⟩) (fun c hx1 f i=>have hx1:=hx1;have:=hx1.1;have:=hx1.2.1;Kl 2 40 (ln ak e)<|Ka 0 (Int.ofNat c) (Int.ofNat e.length) (fun _ _=>Kl 2 46 (wj c)<|Mx (aT ak (by(simp only[aN,b7,km]at *;omega):c-1<(e).length))<|Kp 4 (hasA<|gD e<|c-1)<|Kp 1 (hasB<|gD e<|c-1)<|Mp (hF (iF A<|gD e<|c-1)<|iF B<|gD e<|c-1)<|Mb (op (iF A<|gD e<|c-1)<|iF B<|gD e<|c-1) (fun _=>Kx 3 (aT ak (by(simp only[aN,b7,km]at *;omega):c<(e).length))<|Kl 6 43 (iP c)<|Kf 0<|i (c+1) 0 1 [PSpan.mk (gD e<|c-1)<|gD e c] (by exact⟨by(omega),by(simp only[aN]at *;omega),rfl,by(simp only[cT,gE];omega),DY hx1.2.2 hx1.1 (by(simp only[aN]at *;omega)) (hgv _ _ (by assumption)) rfl⟩)<|by(omega)) fun _=>Kl 1 43 (iP c)<|Kf 0<|f (c+1) (by exact⟨by(omega),by(simp only[aN]at *;omega),DU hx1.2.2 hx1.1 (by(simp only[aN]at *;omega)) (hgv _ _ (by assumption)) rfl⟩)<|by(omega)) fun _ _=>Kp 0 wE<|Kf 0<|cY<|rr0<|List.map aJ<|iX []) fun c i j k hx1 _ l=>have hx1:=hx1;have:=hx1.1;have:=hx1.2.1;Kl 2 40 (ln ak e)<|Ka 0 (Int.ofNat c) (Int.ofNat e.length) (fun _ _=>Kl 2 46 (wj c)<|Mx (aT ak (by(simp only[aN,b7,km]at *;omega):c-1<(e).length))<|Kp 4 (hasA<|gD e<|c-1)<|Kp 1 (hasB<|gD e<|c-1)<|Mp (hF (iF A<|gD e<|c-1)<|iF B<|gD e<|c-1)<|Mb (op (iF A<|gD e<|c-1)<|iF B<|gD e<|c-1) (fun _=>Kx 3 (aT ak (by(simp only[aN,b7,km]at *;omega):c<(e).length))<|K1 2 .app (bT (aY i) (by(rw[b7];first|exact f.1|exact hx1.2.2.1):j=(List.map aJ k).length) (by(refine cJ (m:=2^31) ?_ ?_ ?_<;>first|omega|(simp only[b7,cT,eX,gE];omega)|(have z:=congrArg List.length f.2.2;rw[kw,eX]at z;have z9:=hll _ hz20;have z2:=f.1;first|omega|(simp only[cT,gE];omega))|(have z:=hx1.2.2.2.1;have z2:=hx1.2.2.1;have z3:=hx1.2.1;first|omega|(simp only[cT,gE];omega))):small (j+1) 16=true))<|M1 (.obj 0<|aZ 2 true (i+1)<|List.map aJ<|k++[PSpan.mk (gD e<|c-1)<|gD e c]) (congrArg (aZ 2 true<|i+1)<|ce (f:=aJ) (l:=k) (ws:=[PSpan.mk (gD e<|c-1)<|gD e c]))<|Kl 2 43 (iP c)<|Kf 0<|l (c+1) (i+1) (j+1) (k++[PSpan.mk (gD e<|c-1)<|gD e c]) (by exact⟨by(omega),by(simp only[aN]at *;omega),by rw[eX,←hx1.2.2.1];rfl,by(have z:=hx1.2.2.2.1;simp only[eX,cT,gE];omega),by rw[hx1.2.2.2.2,DY rfl hx1.1 (by(simp only[aN]at *;omega)) (hgv _ _ (by assumption)) rfl];simp⟩)<|by(omega)) fun _=>Kl 1 43 (iP c)<|Kf 0<|l (c+1) i j k (by exact⟨by(omega),by(simp only[aN]at *;omega),hx1.2.2.1,by(have z:=hx1.2.2.2.1;omega),by rw[hx1.2.2.2.2,DU rfl hx1.1 (by(simp only[aN]at *;omega)) (hgv _ _ (by assumption)) rfl]⟩)<|by(omega)) fun _ _=>Mg 0<|M2 (.fsl 0 [] 66<|List.map aJ k) True.intro (bT (aY i) (tA aJ k j (by(omega):(k).length=j))<|aX Vi k)<|Ml 66 (e9 (List.map aJ k) false<|aX Vi k)<|Mp (gN k<|by(omega))<|Kf 0<|cY<|rr0<|List.map aJ<|iX k) (fun e _ _ _ f i _ j _ k _ l n=>have:=hll _ hz20;Kt 0 k<|Mx l<|Kl 11 33 (iP e)<|Mg 0<|M0 (.ren [1,0] [] [0,1,2,7,20,21,22])<|M1 (.frz 1 [0,1,2,7,20,21,22]) (et (aY true) True.intro)<|Mf<|j 0 2 [f.from_,f.to]<|by exact⟨rfl,by simp,by rw[n];rfl⟩) (fun _ _ e f i _ _ _ j k=>Kh 0 j<|Ke 0 (IF i e f (by(omega)) (by(omega))<|by(have z:=congrArg List.length k.2.2;rw[kw,eX]at z;have z9:=hll _ hz20;omega))<|Mj (List Int) [0,1,2,7] (NM F A B c) (NN F A B c) (fun j=>Ke 0 (Bw (c8 i) e f (by(rw[(iC _).length_eq];first|exact k.1|exact k.2.1|(have z:=congrArg List.length k.2.2;rw[kw,eX]at z;have z9:=hll _ hz20;omega))) (by(rw[(iC _).length_eq];first|exact k.1|exact k.2.1|(have z:=congrArg List.length k.2.2;rw[kw,eX]at z;have z9:=hll _ hz20;omega)))<|by(rw[(iC _).length_eq];first|exact k.1|exact k.2.1|(have z:=congrArg List.length k.2.2;rw[kw,eX]at z;have z9:=hll _ hz20;omega)))<|M2 (.fsl 0 [0,1,2] 37<|List.map ak<|List.take (bZ<|c8 i).length<|bZ (c8 i)++List.replicate ((c8 i).length -(bZ<|c8 i).length) 0) True.intro (bT (aY e) (we (f:=ak) (l:=bZ (c8 i)++List.replicate ((c8 i).length -(bZ<|c8 i).length) 0) (n:=(bZ<|c8 i).length))<|aX JK<|List.take (bZ<|c8 i).length<|bZ (c8 i)++List.replicate ((c8 i).length -(bZ<|c8 i).length) 0)<|Ml 37 (e9 (List.map ak<|List.take (bZ<|c8 i).length<|bZ (c8 i)++List.replicate ((c8 i).length -(bZ<|c8 i).length) 0) false<|aX JK<|List.take (bZ<|c8 i).length<|bZ (c8 i)++List.replicate ((c8 i).length -(bZ<|c8 i).length) 0)<|Kf 0<|j (List.take (bZ<|c8 i).length<|bZ (c8 i)++List.replicate ((c8 i).length -(bZ<|c8 i).length) 0) (by(unfold ie;rw[k.2.2];simp[pa]):List.take (bZ (c8 i)).length (bZ (c8 i)++List.replicate ((c8 i).length -(bZ (c8 i)).length) (0:Int))=ie c)) fun e hz37=>have hz37:=hz37;have:=hz37▸hcl _ hz20;Mg 1<|Sb Nat Nat Nat (List PSpan) (1:Nat) [0,1,2,7,10,11] (fun c=>([aW<|A.map aJ,aW<|B.map aJ,bY (bV F) [] [],aW<|e.map ak,ay,nV c],[])) (fun c f i j=>([aW<|A.map aJ,aW<|B.map aJ,bY (bV F) [] [],aW<|e.map ak,aD 0 f 0 i none,nV c],[aZ 2 true f<|j.map aJ])) (fun c=>(1:Nat)≤c∧c≤2^30∧kJ g e=kJ g (e.drop<|c-1)) (fun c _ f i=>(1:Nat)≤c∧c≤2^30∧f=i.length∧i.length<c∧kJ g e=i++kJ g (e.drop<|c-1)) (fun c=>2^31-c) (fun c _ _ _=>2^31-c) (by exact⟨ao _,by omega,rfl⟩) (fun c hx1 f i=>have hx1:=hx1;have:=hx1.1;have:=hx1.2.1;Kl 2 40 (ln ak e)<|Ka 0 (Int.ofNat c) (Int.ofNat e.length) (fun _ _=>Kl 2 46 (wj c)<|Mx (aT ak (by(simp only[aN,b7,km]at *;omega):c-1<(e).length))<|Kp 4 (hasA<|gD e<|c-1)<|Kp 1 (hasB<|gD e<|c-1)<|Mp (hF (iF A<|gD e<|c-1)<|iF B<|gD e<|c-1)<|Mb (op (iF A<|gD e<|c-1)<|iF B<|gD e<|c-1) (fun _=>Kx 3 (aT ak (by(simp only[aN,b7,km]at *;omega):c<(e).length))<|Kl 6 43 (iP c)<|Kf 0<|i (c+1) 0 1 [PSpan.mk (gD e<|c-1)<|gD e c] (by exact⟨by(omega),by(simp only[aN]at *;omega),rfl,by(simp only[cT,gE];omega),DY hx1.2.2 hx1.1 (by(simp only[aN]at *;omega)) (hgv _ _ (by assumption)) rfl⟩)<|by(omega)) fun _=>Kl 1 43 (iP c)<|Kf 0<|f (c+1) (by exact⟨by(omega),by(simp only[aN]at *;omega),DU hx1.2.2 hx1.1 (by(simp only[aN]at *;omega)) (hgv _ _ (by assumption)) rfl⟩)<|by(omega)) fun _ _=>Kp 0 wE<|Kf 0<|cY<|rr0<|List.map aJ<|iX []) fun c f i j hx1 _ l=>have hx1:=hx1;have:=hx1.1;have:=hx1.2.1;Kl 2 40 (ln ak e)<|Ka 0 (Int.ofNat c) (Int.ofNat e.length) (fun _ _=>Kl 2 46 (wj c)<|Mx (aT ak (by(simp only[aN,b7,km]at *;omega):c-1<(e).length))<|Kp 4 (hasA<|gD e<|c-1)<|Kp 1 (hasB<|gD e<|c-1)<|Mp (hF (iF A<|gD e<|c-1)<|iF B<|gD e<|c-1)<|Mb (op (iF A<|gD e<|c-1)<|iF B<|gD e<|c-1) (fun _=>Kx 3 (aT ak (by(simp only[aN,b7,km]at *;omega):c<(e).length))<|K1 2 .app (bT (aY f) (by(rw[b7];first|exact k.1|exact hx1.2.2.1):i=(List.map aJ j).length) (by(refine cJ (m:=2^31) ?_ ?_ ?_<;>first|omega|(simp only[b7,cT,eX,gE];omega)|(have z:=congrArg List.length k.2.2;rw[kw,eX]at z;have z9:=hll _ hz20;have z2:=k.1;first|omega|(simp only[cT,gE];omega))|(have z:=hx1.2.2.2.1;have z2:=hx1.2.2.1;have z3:=hx1.2.1;first|omega|(simp only[cT,gE];omega))):small (i+1) 16=true))<|M1 (.obj 0<|aZ 2 true (f+1)<|List.map aJ<|j++[PSpan.mk (gD e<|c-1)<|gD e c]) (congrArg (aZ 2 true<|f+1)<|ce (f:=aJ) (l:=j) (ws:=[PSpan.mk (gD e<|c-1)<|gD e c]))<|Kl 2 43 (iP c)<|Kf 0<|l (c+1) (f+1) (i+1) (j++[PSpan.mk (gD e<|c-1)<|gD e c]) (by exact⟨by(omega),by(simp only[aN]at *;omega),by rw[eX,←hx1.2.2.1];rfl,by(have z:=hx1.2.2.2.1;simp only[eX,cT,gE];omega),by rw[hx1.2.2.2.2,DY rfl hx1.1 (by(simp only[aN]at *;omega)) (hgv _ _ (by assumption)) rfl];simp⟩)<|by(omega)) fun _=>Kl 1 43 (iP c)<|Kf 0<|l (c+1) f i j (by exact⟨by(omega),by(simp only[aN]at *;omega),hx1.2.2.1,by(have z:=hx1.2.2.2.1;omega),by rw[hx1.2.2.2.2,DU rfl hx1.1 (by(simp only[aN]at *;omega)) (hgv _ _ (by assumption)) rfl]⟩)<|by(omega)) fun _ _=>Mg 0<|M2 (.fsl 0 [] 66<|List.map aJ j) True.intro (bT (aY f) (tA aJ j i (by(omega):(j).length=i))<|aX Vi j)<|Ml 66 (e9 (List.map aJ j) false<|aX Vi j)<|Mp (gN j<|by(omega))<|Kf 0<|cY<|rr0<|List.map aJ<|iX j) fun e _ f i j _ _ k l _ n _ o _ p q=>have:=hll _ hz20;Kt 0 o<|Mx p<|K1 8 .app (bT (aY f) (by(rw[b7];first|exact q.1|exact hx1.2.2.1):i=(List.map ak j).length) (by(refine cJ (m:=2^31) ?_ ?_ ?_<;>first|omega|(simp only[b7,cT,eX,gE];omega)|(have z:=congrArg List.length q.2.2;rw[kw,eX]at z;have z9:=hll _ hz20;have z2:=q.1;first|omega|(simp only[cT,gE];omega))|(have z:=hx1.2.2.2.1;have z2:=hx1.2.2.1;have z3:=hx1.2.1;first|omega|(simp only[cT,gE];omega))):small (i+2) 8=true))<|M1 (.obj 0<|aZ 1 true (f+1)<|List.map ak<|j++[k.from_,k.to]) (congrArg (aZ 1 true<|f+1)<|ce (f:=ak) (l:=j) (ws:=[k.from_,k.to]))<|Kl 1 33 (iP e)<|K1 0 (.frz 1 [0,1,2,7,20,21,22]) (et (tR 1 true (f+1) 1<|aX JK<|j++[k.from_,k.to]) True.intro)<|Mf<|n (f+1) (i+2) (j++[k.from_,k.to])<|by exact⟨by rw[eX,←q.1];rfl,by simp,by rw[q.2.2,CD];simp⟩
theorem V8(x y:Bool):kP 139 [.bool x,.bool y] (.bool (x||y)):=by
  have rr0 b' (h:(x||y)=b':=by simp only[aS,aj,bS, *]):=h;exact bI Tryz.func139<|Kb 2 x (fun a=>MV a<|Ky 0<|rr0 true) fun a=>Kw 0 a<|Ky 0<|rr0 y
theorem U4(x y:Bool):kP 140 [.bool x,.bool y] (.bool (x&&y)):=by
  have rr0 b' (h:(x&&y)=b':=by simp only[aS,aj,bS, *]):=h;exact bI Tryz.func140<|Kb 2 x (fun a=>Ku 0 a<|Ky 0<|rr0 y) fun a=>My a<|Ky 0<|rr0 false
theorem Ot(a b:List PSpan)(ha:a.length<2^30)(hb:b.length<2^30):kP 118 [.ls (a.map aJ),.ls (b.map aJ)] (.ls ((sV (· || ·) a b).map aJ)):=by
  have h:=Lo 139 (· || ·) V8 rfl a b ha hb
  exact bI Tryz.func118<|Kp 2 h<|Kf 0<|bd<|aW<|(sV (fun c d=>c||d) a b).map aJ
theorem Qc(a b:List PSpan)(ha:a.length<2^30)(hb:b.length<2^30):kP 120 [.ls (a.map aJ),.ls (b.map aJ)] (.ls ((sV (· && ·) a b).map aJ)):=by
  have h:=Lo 140 (· && ·) U4 rfl a b ha hb
  exact bI Tryz.func120<|Kp 2 h<|Kf 0<|bd<|aW<|(sV (fun c d=>c&&d) a b).map aJ
noncomputable def oM(a:List PSpan)(d:Int):List PSpan:=sV (· && ·) a [⟨0,d⟩]
noncomputable def pL(a:List PSpan)(d:Int):List PSpan:=sV (· || ·) (oM a d) [⟨d,1048577⟩]
theorem sk(a:List PSpan)(d:Int):NrmS (oM a d):=zx _
theorem uv(a:List PSpan)(d:Int):NrmS (pL a d):=zx _
theorem EP(a:List PSpan)(d:Int)(ha:a.length<2^30):kP 107 [.ls (a.map aJ),iV d] (.ls ((oM a d).map aJ)):=by
  have h:kP 120 [.ls (a.map aJ),.ps [aJ ⟨0,d⟩] true] (.ls ((oM a d).map aJ)):=(Qc a [⟨0,d⟩] ha (by simp)).onArgs (.cons (Le.refl _) (.cons (Le.ps _ _ rfl) .nil))
  exact bI Tryz.func107<|Kp 4 h<|Kf 0<|bd<|aW<|(oM a d).map aJ
theorem RQ(a:List PSpan)(d:Int)(ha:a.length<2^30):kP 105 [.ls (a.map aJ),iV d] (.ls ((pL a d).map aJ)):=by
  have h0:=EP a d ha
  have hl:=(sk a d).len
  have h:kP 118 [.ls ((oM a d).map aJ),.ps [aJ ⟨d,1048577⟩] true] (.ls ((pL a d).map aJ)):=(Ot (oM a d) [⟨d,1048577⟩] (by omega) (by simp)).onArgs (.cons (Le.refl _) (.cons (Le.ps _ _ rfl) .nil))
  exact bI Tryz.func105<|Kp 2 h0<|Kp 2 h<|Kf 0<|bd<|aW<|(pL a d).map aJ
noncomputable def sX(k:Int):Bool:=ah k 7||ah k 9
noncomputable def kO(k:Int):Bool:=sX k||ah k 8
noncomputable def rP(k:Int):AV:=match sX k with|true=>.func (.func 105) [] []|false=>match ah k 8 with|true=>.func (.func 107) [] []|false=>.nilf
theorem zh(k:Int):eO (some .nilf) true (bb false 1 [(0,1)] (iV k) [⟨iV 7,.func (.func 105) [] [],0⟩,⟨iV 9,.func (.func 105) [] [],1⟩,⟨iV 8,.func (.func 107) [] [],2⟩] 0)=some (.tuple [rP k,.bool (kO k)]):=by
  unfold rP kO sX
  simp only[bb,qo,I9,kp]
  cases h1:ah k 7<;>cases h2:ah k 9<;>cases h3:ah k 8<;>rfl
theorem OG{k:Int}(h:sX k=true):Le (.func (.func 105) [] []) (rP k):=by unfold rP;rw[h];exact Le.refl _
theorem SC{k:Int}(h:sX k=false)(h2:kO k=true):Le (.func (.func 107) [] []) (rP k):=by
  unfold kO at h2;rw[h,Bool.false_or]at h2
  unfold rP;rw[h,h2];exact Le.refl _
noncomputable def OH:List AEnt:=[⟨iV 7,.func (.func 105) [] [],0⟩,⟨iV 9,.func (.func 105) [] [],1⟩,⟨iV 8,.func (.func 107) [] [],2⟩]
theorem SA(x:PItem):kD 84 [] (av [.row 25 false 0 [eI x]]) (.map 1) (av [.row 25 false 0 [eI x],.map OH 3]):=by
  exact ed Tryz.func84 fun a=>Kf 6 a
theorem SB(s:PStart)(d o:PDeed):kD 84 [] (av [.row 3 false 0 [aw s],.row 28 false 0 [aU d],.row 28 false 0 [aU o]]) (.map 3) (av [.row 3 false 0 [aw s],.row 28 false 0 [aU d],.row 28 false 0 [aU o],.map OH 3]):=by
  exact ed Tryz.func84 fun a=>Kf 6 a
noncomputable def rJ(x:PItem)(a i:Int):Bool:=ah x.act a&&(match ah x.kind 11 with|true=>ah x.item i|false=>kO x.kind&&(ah x.item i||ah x.item (-1)))
theorem Mm(x:PItem)(a i:Int):kP 85 [eI x,iV a,iV i] (.bool (rJ x a i)):=by
  have hlk:=zh
  have rr0 b' (h:(rJ x a i)=b':=by unfold rJ;generalize ah x.act a=p1 at *;generalize ah x.kind 11=p2 at *;generalize ah x.item i=p3 at *;generalize ah x.item (-1)=p4 at *;generalize kO x.kind=p5 at *;simp only[aS,aj,bS, *]):=h;let q:=[aa [iV x.kind,aW (x.at_.map az),aW (x.to.map az),iV x.where_,iV x.nth_,iV x.unit.act,iV x.unit.item,iV x.unit.n,iV x.unit.kind,ax x.unit.label,aW (x.unit.head.map aQ),aW (x.unit.words.map aQ),aW (x.unit.kids.map aV),aW (x.old.map m0),aW (x.new.map m0),ax x.label,ax x.for_,iV x.start.kind,iV x.start.day,ax x.start.event,iV x.act,iV x.item,iV x.day,ax x.event,aW (x.by_.map NA)]];let q1:=bY (bV 105) [] [];exact bI Tryz.func85<|Kc 5 x.act a (fun _ _=>Ky 0<|rr0 false) fun _ _=>Kj 2 x.kind 11 (fun _ _=>Kf 4<|ch<|rr0<|ah x.item i) fun _ _=>M3 (.efx true (AV.map 1)<|av [aZ 25 false 0 q,AObj.map [AEnt.mk (iV 7) q1 0,AEnt.mk (iV 9) q1 1,AEnt.mk (iV 8) (bY (bV 107) [] []) 2] 3]) (et rt ti) (et (aY<|some<|aZ 25 false 0 q) ti) (SA x)<|K1 1 (.look<|bP [rP x.kind,eC<|kO x.kind]) (hlk x.kind)<|Kb 6 (kO x.kind) (fun b=>Kt 0 b<|Kt 0 b<|Kt 0 b<|Kt 0 b<|Kj 0 x.item i (fun c _=>Mt c<|Mt c<|Mt b<|MV c<|MV b<|Ky 0<|rr0 true) fun c _=>Kh 0 c<|Kh 0 c<|Kt 0 b<|My c<|MV b<|Kf 0<|ch<|rr0<|ah x.item (-1)) fun b=>Mh b<|Mh b<|Mh b<|Mh b<|Mh b<|My b<|Ky 0<|rr0 false
noncomputable abbrev gI(nm:aO):AObj:=.row 1 false 0 [.str nm]
noncomputable def sK(nm:aO)(d:PDeed):Bool:=ah d.it.kind 10&&eJ d.it.event nm
theorem RW(nm:aO)(d:PDeed):kD 119 [aU d,.ptr 0 0 0 0] (av [gI nm]) (.bool (sK nm d)) (av [gI nm]):=by
  let q:=av [aZ 1 false 0 [ax nm]];exact Jt Tryz.func119<|Kj 6 d.it.kind 10 (fun a _=>Kt 0 a<|Kt 0 a<|Kt 0 a<|Kt 0 a<|Ku 0 a<|K1 0 (.frz 1 [3]) (et rt ti)<|Mf<|et (by unfold sK;generalize ah d.it.kind 10=p1 at *;generalize eJ d.it.event nm=p2 at *;simp only[aS,aj,bS, *]:(AV.bool (eJ d.it.event nm))=(AV.bool (sK nm d)))<|aY q) fun a _=>Mh a<|Mh a<|Mh a<|Mh a<|My a<|K1 0 (.frz 1 [3]) (et rt ti)<|Mf<|et (by unfold sK;generalize ah d.it.kind 10=p1 at *;generalize eJ d.it.event nm=p2 at *;simp only[aS,aj,bS, *]:(AV.bool false)=(AV.bool (sK nm d)))<|aY q
noncomputable def jx(nm:aO):List PDeed→Nat→Int
  |[],_=> -1
  |d::r,i=>match sK nm d with|true=>Int.ofNat i|false=>jx nm r (i+1)
theorem K9(nm:aO):∀(l:List PDeed)(i:Nat),jx nm l i<Int.ofNat (i+l.length)∧(0≤jx nm l i∨jx nm l i= -1)
  |[],i=>⟨by simp only[jx,oN];omega,.inr rfl⟩
  | d::r,i=>by
    have:=K9 nm r (i+1)
    cases h:sK nm d<;>simp only[jx,h,oN,lC]at * <;>omega
theorem Yh{nm:aO}{d:PDeed}{r:List PDeed}{i:Nat}(h:sK nm d=true):jx nm (d::r) i=Int.ofNat i:=by simp only[jx,h]
theorem Yi{nm:aO}{d:PDeed}{r:List PDeed}{i:Nat}(h:sK nm d=false):jx nm (d::r) i=jx nm r (i+1):=by simp only[jx,h]
theorem Cg(nm:aO)(l:List PDeed)(hl:l.length<2^40):kD 37 [.ls (l.map aU),.func (.func 119) [] [.ptr 0 0 0 0]] (av [gI nm]) (iV (jx nm l 0)) (av [gI nm]):=by
  let q:=av [aZ 1 false 0 [ax nm]];exact Jt Tryz.func37<|Kl 2 7 (ln aU l)<|Mg 0<|uT aU l [0,1,7,8] (fun a _=>([aW<|l.map aU,bY (bV 119) [] [bz 0 0 0 0],nV l.length,nV a],[aZ 1 false 0 [ax nm]])) (fun a=>jx nm l (0:Nat)=jx nm a (l.length-a.length)) (by(rw[Nat.sub_self])) (fun _ _ _ _ _ a b=>Kh 0 a<|Kf 0<|et (by(rw[b];rfl):(iV (-1))=(iV (jx nm l 0)))<|aY q) fun a _ b _ c d e f g _ h i=>have:=gy b f;Kt 0 g<|Kx 4 h<|Ke 0 (RW nm c)<|Mb (sK nm c) (fun _=>Kf 1<|et (by(rw[i,Yh (by assumption)];congr 2;have z:=IV (b.trans f) (by simp) (by simp only[lC];omega:(l.length-(d.length+1))+(c::d).length=l.length);exact z):(nV a)=(iV (jx nm l 0)))<|aY q) fun _=>Kl 0 18 (dc a)<|Kf 0<|e<|by(rw[i,Yi (by assumption)];congr 1;have:=gy b f;simp only[lC];omega)
theorem RZ(d:Int):kP 105 [.nils,iV d] (.ls ((pL [] d).map aJ)):=(RQ [] d (by simp)).onArgs (.cons Le.nils (.cons (Le.refl _) .nil))
theorem I7(nm:aO)(l:List PDeed)(hl:l.length<2^40)(h:aC (jx nm l 0) 0=true):kP 106 [.str nm,.ls (l.map aU)] (.tuple [iV 0,.bool false]):=by
  exact bI Tryz.func106<|Ke 4 (Cg nm l hl)<|Kt 2 h<|Kf 1<|bd<|bP [iV 0,eC false]
theorem I8(nm:aO)(l:List PDeed)(hl:l.length<2^40)(h:aC (jx nm l 0) 0=false):kP 106 [.str nm,.ls (l.map aU)] (.tuple [iV (gD l (jx nm l 0).toNat).it.day,.bool true]):=by
  have g1:=aG h
  have g2:=(K9 nm l 0).1
  exact bI Tryz.func106<|Ke 4 (Cg nm l hl)<|Kh 2 h<|Kl 1 13 (AP (x:=jx nm l 0) oA)<|Mx (aT aU (by(simp only[oN,lM,lS]at *;omega):(jx nm l 0).toNat<(l).length))<|Kf 4<|bd<|bP [iV (gD l (jx nm l 0).toNat).it.day,eC true]
noncomputable def ly(s:PStart)(l:List PDeed):List PSpan:=match ah s.kind 1 with|true=>pL [] s.day|false=>match ah s.kind 3 with|true=>(match aC (jx s.event l 0) 0 with|true=>[]|false=>pL [] (gD l (jx s.event l 0).toNat).it.day)|false=>[]
theorem Nk(s:PStart)(l:List PDeed)(hl:l.length<2^40)(hi:aC (jx s.event l 0) 0=true):kP 82 [aw s,.ls (l.map aU)] (.ls ((ly s l).map aJ)):=by
  have he:=I7 s.event l hl hi
  have e:ly s l=match ah s.kind 1 with|true=>pL [] s.day|false=>[]:=(by unfold ly;rw[hi];cases ah s.kind 1<;>cases ah s.kind 3<;>rfl)
  rw[e]
  have rr0 b' (h:((match ah s.kind 1 with|true=>pL [] s.day|false=>[]).map aJ)=b':=by generalize ah s.kind 1=p1 at *;(rw[h0]);try rfl):=h;exact bI Tryz.func82<|Kj 5 s.kind 1 (fun h0 _=>Kp 1 (RZ s.day)<|Kf 0<|cY<|rr0<|(pL [] s.day).map aJ) fun h0 _=>Kj 1 s.kind 3 (fun _ _=>Kp 2 he<|Kf 7 (Le.lsn<|rr0 []:Le _ (ay))) fun _ _=>Kf 0 (Le.lsn<|rr0 []:Le _ (ay))
theorem Nw(s:PStart)(l:List PDeed)(hl:l.length<2^40)(hi:aC (jx s.event l 0) 0=false):kP 82 [aw s,.ls (l.map aU)] (.ls ((ly s l).map aJ)):=by
  have he:=I8 s.event l hl hi
  have e:ly s l=match ah s.kind 1 with|true=>pL [] s.day|false=>match ah s.kind 3 with|true=>pL [] (gD l (jx s.event l 0).toNat).it.day |false=>[]:=(by unfold ly;rw[hi])
  rw[e]
  have rr0 b' (h:((match ah s.kind 1 with|true=>pL [] s.day|false=>match ah s.kind 3 with|true=>pL [] (gD l (jx s.event l 0).toNat).it.day |false=>[]).map aJ)=b':=by generalize ah s.kind 1=p1 at *;generalize ah s.kind 3=p3 at *;(rw[h0]);(first|rw[h1]|skip);try rfl):=h;exact bI Tryz.func82<|Kj 5 s.kind 1 (fun h0 _=>Kp 1 (RZ s.day)<|Kf 0<|cY<|rr0<|(pL [] s.day).map aJ) fun h0 _=>Kj 1 s.kind 3 (fun h1 _=>Kp 2 he<|Kp 7 (RZ (gD l (jx s.event l 0).toNat).it.day)<|Kf 0<|cY<|rr0<|(pL [] (gD l (jx s.event l 0).toNat).it.day).map aJ) fun h1 _=>Kf 0 (Le.lsn<|rr0 []:Le _ (ay))
theorem IH(s:PStart)(l:List PDeed)(hl:l.length<2^40):kP 82 [aw s,.ls (l.map aU)] (.ls ((ly s l).map aJ)):=by
  cases hi:aC (jx s.event l 0) 0
  · exact Nw s l hl hi
  · exact Nk s l hl hi
noncomputable def sd(d o:PDeed)(days:List PSpan):List PSpan:=match kO o.it.kind&&rJ o.it d.act d.item with|true=>(match sX o.it.kind with|true=>pL days o.it.day|false=>oM days o.it.day)|false=>days
noncomputable def lP(d:PDeed):List PDeed→List PSpan→List PSpan
  |[],days=>days
  |o::r,days=>lP d r (sd d o days)
noncomputable def am(s:PStart)(d:PDeed)(l:List PDeed):List PSpan:=match aC d.it.kind 0||aC 6 d.it.kind with|true=>[]|false=>lP d l (ly (effS s d.it.start) l)
theorem Nv(s:PStart)(l:List PDeed):(ly s l).length≤1048577:=by
  have h:=fun d=>(uv [] d).len
  unfold ly
  cases ah s.kind 1<;>cases ah s.kind 3<;>cases aC (jx s.event l 0) 0<;>simp only[lN]<;>first|exact h _|omega
theorem gq(s:PStart)(d:PDeed)(l:List PDeed)(hl:l.length<2^40):kP 60 [aw s,aU d,.ls (l.map aU)] (.ls ((am s d l).map aJ)):=by
  have hlk:=zh
  have hle1:∀k,sX k=true→Le (.func (.func 105) [] []) (rP k):=fun k h=>OG h
  have hle2:∀k,sX k=false→kO k=true→Le (.func (.func 107) [] []) (rP k):=fun k h h2=>SC h h2
  have hil:=Nv (effS s d.it.start) l
  have hin:∀b,(aC d.it.kind 0||aC 6 d.it.kind)=b→am s d l=match b with|true=>[]|false=>lP d l (ly (effS s d.it.start) l):=fun b h=>by unfold am;rw[h]
  have hst:∀(o:PDeed)(r:List PDeed)(days:List PSpan),lP d (o::r) days=lP d r (sd d o days):=fun o r days=>rfl
  have rr0 b' (h:((am s d l).map aJ)=b':=by first|(rw[hin true (by simp only[aS,aj,bS, *];try rfl)];rfl)|(rw[hin false (by simp only[aS,aj,bS, *];try rfl)];first|exact congrArg _ hj0.2|exact congrArg _ hj0.2.symm|(rw[hj0.2];rfl))):=h;let q1:=[aa [iV d.act,iV d.item,iV d.day,iV d.it.kind,aW (d.it.at_.map az),aW (d.it.to.map az),iV d.it.where_,iV d.it.nth_,iV d.it.unit.act,iV d.it.unit.item,iV d.it.unit.n,iV d.it.unit.kind,ax d.it.unit.label,aW (d.it.unit.head.map aQ),aW (d.it.unit.words.map aQ),aW (d.it.unit.kids.map aV),aW (d.it.old.map m0),aW (d.it.new.map m0),ax d.it.label,ax d.it.for_,iV d.it.start.kind,iV d.it.start.day,ax d.it.start.event,iV d.it.act,iV d.it.item,iV d.it.day,ax d.it.event,aW (d.it.by_.map NA)]];let q2:=[aa [iV s.kind,iV s.day,ax s.event]];let q3:=bY (bV 105) [] [];exact bI Tryz.func60<|Ka 7 d.it.kind 0 (fun a _=>Mt a<|Mt a<|Mt a<|MV a<|Kf 1 (Le.lsn<|rr0 []:Le _ (ay))) fun a _=>Kh 0 a<|Kh 0 a<|Kh 0 a<|Kw 0 a<|Mb (aC 6 d.it.kind) (fun a=>have:=ap a;Kf 0 (Le.lsn<|rr0 []:Le _ (ay))) fun a=>have:=aG a;Kp 3 (G2 s d.it.start)<|Kp 0 (IH (effS s d.it.start) l hl)<|Kl 2 30 (ln aU l)<|Mg 0<|VX (0:Nat) l (ly (effS s d.it.start) l) [4,7,29,30,31] (fun a _ c=>([bz 1 0 0 0,aW<|c.map aJ,aW<|l.map aU,nV l.length,nV a],[aZ 3 false 0 [aa [iV s.kind,iV s.day,ax s.event]],aZ 28 false 0 [aa [iV d.act,iV d.item,iV d.day,iV d.it.kind,aW<|d.it.at_.map az,aW<|d.it.to.map az,iV d.it.where_,iV d.it.nth_,iV d.it.unit.act,iV d.it.unit.item,iV d.it.unit.n,iV d.it.unit.kind,ax d.it.unit.label,aW<|d.it.unit.head.map aQ,aW<|d.it.unit.words.map aQ,aW<|d.it.unit.kids.map aV,aW<|d.it.old.map m0,aW<|d.it.new.map m0,ax d.it.label,ax d.it.for_,iV d.it.start.kind,iV d.it.start.day,ax d.it.start.event,iV d.it.act,iV d.it.item,iV d.it.day,ax d.it.event,aW<|d.it.by_.map NA]]])) (fun a c e=>(l).drop a=c∧e.length≤1048577∧lP d l (ly (effS s d.it.start) l)=lP d c e) (fun _ a _=>a.length) (et rfl<|by(exact⟨hil,rfl⟩)) fun a c e f g=>Mc c (fun a=>have c:=fY f.1 a;have hj0:=gL (J:=fun a c=>c.length≤1048577∧lP d l (ly (effS s d.it.start) l)=lP d a c) (a:=e) a f.2;Kh 0 c<|Kf 1<|cY<|rr0<|e.map aJ) fun c i j=>let m:=[aa [iV c.act,iV c.item,iV c.day,iV c.it.kind,aW<|c.it.at_.map az,aW<|c.it.to.map az,iV c.it.where_,iV c.it.nth_,iV c.it.unit.act,iV c.it.unit.item,iV c.it.unit.n,iV c.it.unit.kind,ax c.it.unit.label,aW<|c.it.unit.head.map aQ,aW<|c.it.unit.words.map aQ,aW<|c.it.unit.kids.map aV,aW<|c.it.old.map m0,aW<|c.it.new.map m0,ax c.it.label,ax c.it.for_,iV c.it.start.kind,iV c.it.start.day,ax c.it.start.event,iV c.it.act,iV c.it.item,iV c.it.day,ax c.it.event,aW<|c.it.by_.map NA]];have n:=fm f.1 j;have:=ap n;have p:=fV (enc:=aU) f.1 j;have hj0:=ca (J:=fun a c=>c.length≤1048577∧lP d l (ly (effS s d.it.start) l)=lP d a c) (a:=e) j f.2;Kt 0 n<|Mx p<|Mg 2<|M3 (.efx true (AV.map 3)<|av [aZ 3 false 0 q2,aZ 28 false 0 q1,aZ 28 false 0 m,AObj.map [AEnt.mk (iV 7) q3 0,AEnt.mk (iV 9) q3 1,AEnt.mk (iV 8) (bY (bV 107) [] []) 2] 3]) (jv rt rt rt ti) (jv (aY<|some<|aZ 28 false 0 m) (aY<|some<|aZ 28 false 0 q1) (aY<|some<|aZ 3 false 0 q2) ti) (SB s d c)<|K1 2 (.look<|bP [rP c.it.kind,eC<|kO c.it.kind]) (hlk c.it.kind)<|Kb 6 (kO c.it.kind) (fun m=>Kt 0 m<|Kt 0 m<|Kt 0 m<|Kt 0 m<|Kt 0 m<|Kt 0 m<|Mp (Mm c.it d.act d.item)<|MV m<|Mb (rJ c.it d.act d.item) (fun _=>Ks 4 (sX c.it.kind) (fun m=>Ml 53 (hle1 c.it.kind m)<|Mp (RQ e c.it.day oA)<|Kl 1 59 (dc a)<|K1 0 (.frz 2 [4,7,29,30,31]) (bT rt rt ti)<|Mf<|g (a+1) i (pL e c.it.day) (et (bW f.1 j)<|by exact⟨(uv _ _).len,by rw[hj0.2,hst];simp only[sd, *];rfl⟩)<|du j) fun n=>Ml 53 (hle2 c.it.kind n m)<|Mp (EP e c.it.day oA)<|Kl 1 59 (dc a)<|K1 0 (.frz 2 [4,7,29,30,31]) (bT rt rt ti)<|Mf<|g (a+1) i (oM e c.it.day) (et (bW f.1 j)<|by exact⟨(sk _ _).len,by rw[hj0.2,hst];simp only[sd, *];rfl⟩)<|du j) fun _=>Kl 0 59 (dc a)<|K1 0 (.frz 2 [4,7,29,30,31]) (bT rt rt ti)<|Mf<|g (a+1) i e (et (bW f.1 j)<|by exact⟨hj0.1,by rw[hj0.2,hst];simp only[sd,aS,aj,bS, *];try rfl⟩)<|du j) fun c=>Mh c<|Mh c<|Mh c<|Mh c<|Mh c<|Mh c<|My c<|Kl 1 59 (dc a)<|K1 0 (.frz 2 [4,7,29,30,31]) (bT rt rt ti)<|Mf<|g (a+1) i e (et (bW f.1 j)<|by exact⟨hj0.1,by rw[hj0.2,hst];simp only[sd,aS,aj,bS, *];try rfl⟩)<|du j
noncomputable abbrev iM(d:Int):AObj:=.row 1 false 0 [iV d]
noncomputable abbrev dq:AObj:=.row 1 false 0 [.nils]
noncomputable abbrev gr(i ep n:Nat):AObj:=.row 1 false 0 [.slice i ep 0 n none]
noncomputable abbrev bm(m:List (Int×PStart)):AObj:=.map (bw aw m 0) m.length
noncomputable abbrev di(d:PDeed):AObj:=.row 28 false 0 [aU d]
noncomputable abbrev pI(ep:Nat)(l:List PDeed):AObj:=.row 28 true ep (l.map aU)
def dH:PStart:=⟨0,0,[]⟩
def au(m:List (Int×PStart))(k:Int):PStart:=(gT k m).getD dH
theorem pJ(m:List (Int×PStart))(k:Int):eO (some (.agg [iV 0,iV 0,.str []])) false (bb false 1 [(0,1)] (iV k) (bw aw m 0) 0)=some (aw (au m k)):=by
  rw[zl]
  cases h:gT k m<;>simp only[au,h,Option.getD]<;>rfl
theorem rQ(m:List (Int×PStart))(a:PAct):rF (bw aw m 0) m.length (iV a.number) (.agg [iV a.start.kind,iV a.start.day,.str a.start.event]) (bb false 1 [(0,1)] (iV a.number) (bw aw m 0) 0)=some (bw aw (iZ a.number a.start m) 0,(iZ a.number a.start m).length):=BE (f:=aw) a.number a.start m
/-- The starts of the acts by their numbers. -/
def lW(l:List PAct)(m:List (Int×PStart)):List (Int×PStart):=l.foldl (fun m a=>iZ a.number a.start m) m
theorem ni(s:PStart)(d:PDeed)(l:List PDeed):NrmS (am s d l):=by
  have h1:∀(s:PStart),NrmS (ly s l):=fun s=>by
    unfold ly
    cases ah s.kind 1<;>cases ah s.kind 3<;>cases aC (jx s.event l 0) 0<;>first|exact xT|exact uv _ _
  have h2:∀(r:List PDeed)(days:List PSpan),NrmS days→NrmS (lP d r days):=by
    intro r
    induction r with
    |nil=>intro days h;exact h
    | cons o r ih=>
      intro days h
      refine ih _ ?_
      unfold sd
      cases kO o.it.kind&&rJ o.it d.act d.item<;>cases sX o.it.kind<;>first|exact h|exact uv _ _|exact sk _ _
  unfold am
  cases aC d.it.kind 0||aC 6 d.it.kind
  · exact h2 l _ (h1 _)
  · exact xT
theorem sR(s:PStart)(d:PDeed)(l:List PDeed)(day:Int):kP 96 [.ls ((am s d l).map aJ),iV day] (.bool (iF (am s d l) day)):=by
  have hn:=ni s d l
  have h:=HX (am s d l) day (nY hn.len (by decide))
  rwa[show iX (am s d l)=am s d l from(KC hn).symm]at h
/-- Whether an amendment is told: its purpose, its days. -/
noncomputable def WF(p:aO)(d:PDeed):Bool:=eJ d.it.for_ []||eJ d.it.for_ p
noncomputable def CX(day:Int)(p:aO)(m:List (Int×PStart))(ds:List PDeed)(d:PDeed):Bool:=WF p d&&iF (am (au m d.act) d ds) day
noncomputable def sZ(day:Int)(p:aO)(m:List (Int×PStart))(ds l:List PDeed):List PDeed:=l.filter fun d=>co d.it.kind&&CX day p m ds d
theorem Zp(d:PDeed)(ss:List PSpan)(day:Int)(p:aO)(m:List (Int×PStart))(hc:kP 96 [.ls (ss.map aJ),iV day] (.bool false)):kD 95 [aU d,.ls (ss.map aJ),.ptr 1 0 0 0,.ptr 0 0 0 0,.ptr 2 0 0 0] (av [iM day,gI p,dq,bm m,di d]) (.tuple []) (av [iM day,gI p,dq,bm m,di d]):=by
  exact ed Tryz.func95 fun a=>Kb 5 (eJ d.it.for_ (ByteArray.mk #[]).data.toList) (fun b=>Mt b<|Mt b<|Mt b<|Mt b<|MV b<|Kp 2 hc<|K1 1 (.frz 5 []) (re rt (tM m.length 5<|af (f:=aw) (fun _=>rfl) m 0) rt rt rt ti)<|Mf a) fun b=>Kh 0 b<|Kh 0 b<|Kh 0 b<|Kh 0 b<|Kw 0 b<|Kb 0 (eJ d.it.for_ p) (fun b=>Kt 0 b<|Kt 0 b<|Mp hc<|MV b<|K1 0 (.frz 5 []) (re rt (tM m.length 5<|af (f:=aw) (fun _=>rfl) m 0) rt rt rt ti)<|Mf a) fun b=>Mh b<|Mh b<|My b<|K1 0 (.frz 5 []) (re rt (tM m.length 5<|af (f:=aw) (fun _=>rfl) m 0) rt rt rt ti)<|Mf a
theorem Zo(d:PDeed)(ss:List PSpan)(day:Int)(p:aO)(m:List (Int×PStart))(h1:eJ d.it.for_ []=false)(h2:eJ d.it.for_ p=false):kD 95 [aU d,.ls (ss.map aJ),.ptr 1 0 0 0,.ptr 0 0 0 0,.ptr 2 0 0 0] (av [iM day,gI p,dq,bm m,di d]) (.tuple []) (av [iM day,gI p,dq,bm m,di d]):=by
  exact ed Tryz.func95 fun a=>Kh 5 h1<|Kh 0 h1<|Kh 0 h1<|Kh 0 h1<|Kh 0 h1<|Kw 0 h1<|Kh 0 h2<|Mh h2<|Mh h2<|My h2<|K1 0 (.frz 5 []) (re rt (tM m.length 5<|af (f:=aw) (fun _=>rfl) m 0) rt rt rt ti)<|Mf a
theorem Zn(d:PDeed)(ss:List PSpan)(day:Int)(p:aO)(m:List (Int×PStart))(hc:kP 96 [.ls (ss.map aJ),iV day] (.bool true))(h1:eJ d.it.for_ []=true):kD 95 [aU d,.ls (ss.map aJ),.ptr 1 0 0 0,.ptr 0 0 0 0,.ptr 2 0 0 0] (av [iM day,gI p,dq,bm m,di d]) (.tuple []) (av [iM day,gI p,gr 5 0 1,bm m,di d,pI 0 [d]]):=by
  exact ed Tryz.func95 fun a=>Kt 5 h1<|Mt h1<|Mt h1<|Mt h1<|Mt h1<|MV h1<|Kp 2 hc<|K1 6 (.ren [0,1,2,3,4,6,5] [3] []) (tN m.length<|af (f:=aw) (fun _=>rfl) m 0)<|M1 (.frz 6 []) (DI rt rt (tM m.length 6<|af (f:=aw) (fun _=>rfl) m 0) rt rt rt ti)<|Mf a
theorem Zm(d:PDeed)(ss:List PSpan)(day:Int)(p:aO)(m:List (Int×PStart))(hc:kP 96 [.ls (ss.map aJ),iV day] (.bool true))(h1:eJ d.it.for_ []=false)(h2:eJ d.it.for_ p=true):kD 95 [aU d,.ls (ss.map aJ),.ptr 1 0 0 0,.ptr 0 0 0 0,.ptr 2 0 0 0] (av [iM day,gI p,dq,bm m,di d]) (.tuple []) (av [iM day,gI p,gr 5 0 1,bm m,di d,pI 0 [d]]):=by
  exact ed Tryz.func95 fun a=>Kh 5 h1<|Kh 0 h1<|Kh 0 h1<|Kh 0 h1<|Kh 0 h1<|Kw 0 h1<|Kt 0 h2<|Kt 0 h2<|Kt 0 h2<|Mp hc<|MV h2<|K1 5 (.ren [0,1,2,3,4,6,5] [3] []) (tN m.length<|af (f:=aw) (fun _=>rfl) m 0)<|M1 (.frz 6 []) (DI rt rt (tM m.length 6<|af (f:=aw) (fun _=>rfl) m 0) rt rt rt ti)<|Mf a
theorem Zl(d:PDeed)(ss:List PSpan)(day:Int)(p:aO)(m:List (Int×PStart))(ep n:Nat)(out:List PDeed)(hc:kP 96 [.ls (ss.map aJ),iV day] (.bool false)):kD 95 [aU d,.ls (ss.map aJ),.ptr 1 0 0 0,.ptr 0 0 0 0,.ptr 2 0 0 0] (av [iM day,gI p,gr 4 ep n,bm m,pI ep out,di d]) (.tuple []) (av [iM day,gI p,gr 4 ep n,bm m,pI ep out,di d]):=by
  exact ed Tryz.func95 fun a=>Kb 5 (eJ d.it.for_ (ByteArray.mk #[]).data.toList) (fun b=>Mt b<|Mt b<|Mt b<|Mt b<|MV b<|Kp 2 hc<|K1 1 (.frz 6 []) (DI rt (tR 28 true ep 6<|aX xV out) (tM m.length 6<|af (f:=aw) (fun _=>rfl) m 0) rt rt rt ti)<|Mf a) fun b=>Kh 0 b<|Kh 0 b<|Kh 0 b<|Kh 0 b<|Kw 0 b<|Kb 0 (eJ d.it.for_ p) (fun b=>Kt 0 b<|Kt 0 b<|Mp hc<|MV b<|K1 0 (.frz 6 []) (DI rt (tR 28 true ep 6<|aX xV out) (tM m.length 6<|af (f:=aw) (fun _=>rfl) m 0) rt rt rt ti)<|Mf a) fun b=>Mh b<|Mh b<|My b<|K1 0 (.frz 6 []) (DI rt (tR 28 true ep 6<|aX xV out) (tM m.length 6<|af (f:=aw) (fun _=>rfl) m 0) rt rt rt ti)<|Mf a
theorem Zi(d:PDeed)(ss:List PSpan)(day:Int)(p:aO)(m:List (Int×PStart))(ep n:Nat)(out:List PDeed)(h1:eJ d.it.for_ []=false)(h2:eJ d.it.for_ p=false):kD 95 [aU d,.ls (ss.map aJ),.ptr 1 0 0 0,.ptr 0 0 0 0,.ptr 2 0 0 0] (av [iM day,gI p,gr 4 ep n,bm m,pI ep out,di d]) (.tuple []) (av [iM day,gI p,gr 4 ep n,bm m,pI ep out,di d]):=by
  exact ed Tryz.func95 fun a=>Kh 5 h1<|Kh 0 h1<|Kh 0 h1<|Kh 0 h1<|Kh 0 h1<|Kw 0 h1<|Kh 0 h2<|Mh h2<|Mh h2<|My h2<|K1 0 (.frz 6 []) (DI rt (tR 28 true ep 6<|aX xV out) (tM m.length 6<|af (f:=aw) (fun _=>rfl) m 0) rt rt rt ti)<|Mf a
theorem Zh(d:PDeed)(ss:List PSpan)(day:Int)(p:aO)(m:List (Int×PStart))(ep n:Nat)(out:List PDeed)(hn:n=out.length)(hn2:n<2^20)(hc:kP 96 [.ls (ss.map aJ),iV day] (.bool true))(h1:eJ d.it.for_ []=true):kD 95 [aU d,.ls (ss.map aJ),.ptr 1 0 0 0,.ptr 0 0 0 0,.ptr 2 0 0 0] (av [iM day,gI p,gr 4 ep n,bm m,pI ep out,di d]) (.tuple []) (av [iM day,gI p,gr 4 (ep+1) (n+1),bm m,pI (ep+1) (out++[d]),di d]):=by
  exact ed Tryz.func95 fun a=>Kt 5 h1<|Mt h1<|Mt h1<|Mt h1<|Mt h1<|MV h1<|Kp 2 hc<|K1 4 .app (bT (aY ep) (by(rw[lM];exact hn):n=(out.map aU).length) (by exact cJ (m:=2^21) (by omega) (by decide) (by decide):small (n+1) 392=true))<|M1 (.obj 4<|aZ 28 true (ep+1)<|(out++[d]).map aU) (congrArg (aZ 28 true<|ep+1)<|ce (f:=aU) (l:=out) (ws:=[d]))<|K1 0 (.frz 6 []) (DI rt (tR 28 true (ep+1) 6<|aX xV<|out++[d]) (tM m.length 6<|af (f:=aw) (fun _=>rfl) m 0) rt rt rt ti)<|Mf a
theorem Zg(d:PDeed)(ss:List PSpan)(day:Int)(p:aO)(m:List (Int×PStart))(ep n:Nat)(out:List PDeed)(hn:n=out.length)(hn2:n<2^20)(hc:kP 96 [.ls (ss.map aJ),iV day] (.bool true))(h1:eJ d.it.for_ []=false)(h2:eJ d.it.for_ p=true):kD 95 [aU d,.ls (ss.map aJ),.ptr 1 0 0 0,.ptr 0 0 0 0,.ptr 2 0 0 0] (av [iM day,gI p,gr 4 ep n,bm m,pI ep out,di d]) (.tuple []) (av [iM day,gI p,gr 4 (ep+1) (n+1),bm m,pI (ep+1) (out++[d]),di d]):=by
  exact ed Tryz.func95 fun a=>Kh 5 h1<|Kh 0 h1<|Kh 0 h1<|Kh 0 h1<|Kh 0 h1<|Kw 0 h1<|Kt 0 h2<|Kt 0 h2<|Kt 0 h2<|Mp hc<|MV h2<|K1 3 .app (bT (aY ep) (by(rw[lM];exact hn):n=(out.map aU).length) (by exact cJ (m:=2^21) (by omega) (by decide) (by decide):small (n+1) 392=true))<|M1 (.obj 4<|aZ 28 true (ep+1)<|(out++[d]).map aU) (congrArg (aZ 28 true<|ep+1)<|ce (f:=aU) (l:=out) (ws:=[d]))<|K1 0 (.frz 6 []) (DI rt (tR 28 true (ep+1) 6<|aX xV<|out++[d]) (tM m.length 6<|af (f:=aw) (fun _=>rfl) m 0) rt rt rt ti)<|Mf a
theorem Vv{day:Int}{p:aO}{m:List (Int×PStart)}{ds:List PDeed}{d:PDeed}(h:CX day p m ds d=false):kP 96 [.ls ((am (au m d.act) d ds).map aJ),iV day] (.bool false)∨(eJ d.it.for_ []=false∧eJ d.it.for_ p=false):=by
  unfold CX WF at h
  have hz:=sR (au m d.act) d ds day
  cases q:iF (am (au m d.act) d ds) day with
  |false=>rw[q]at hz;exact .inl hz
  |true=>rw[q,Bool.and_true,Bo]at h;exact .inr h
theorem Pt{day:Int}{p:aO}{m:List (Int×PStart)}{ds:List PDeed}{d:PDeed}(h:CX day p m ds d=true):kP 96 [.ls ((am (au m d.act) d ds).map aJ),iV day] (.bool true)∧(eJ d.it.for_ []=true∨(eJ d.it.for_ []=false∧eJ d.it.for_ p=true)):=by
  unfold CX WF at h
  obtain⟨h1,h2⟩:=n5.1 h
  have hz:=sR (au m d.act) d ds day
  rw[h2]at hz
  refine⟨hz,?_⟩
  cases q:eJ d.it.for_ []with
  |true=>exact .inl rfl
  |false=>rw[q,Bool.false_or]at h1;exact .inr ⟨rfl,h1⟩
theorem Yx(day:Int)(p:aO)(m:List (Int×PStart))(ds:List PDeed)(d:PDeed)(hb:CX day p m ds d=false):kD 95 [aU d,.ls ((am (au m d.act) d ds).map aJ),.ptr 1 0 0 0,.ptr 0 0 0 0,.ptr 2 0 0 0] (av [iM day,gI p,dq,bm m,di d]) (.tuple []) (av [iM day,gI p,dq,bm m,di d]):=by
  rcases Vv hb with h|⟨h1,h2⟩
  · exact Zp d _ day p m h
  · exact Zo d _ day p m h1 h2
theorem Zu(day:Int)(p:aO)(m:List (Int×PStart))(ds:List PDeed)(d:PDeed)(hb:By (CX day p m ds d) false):kD 95 [aU d,.ls ((am (au m d.act) d ds).map aJ),.ptr 1 0 0 0,.ptr 0 0 0 0,.ptr 2 0 0 0] (av [iM day,gI p,dq,bm m,di d]) (.tuple []) (av [iM day,gI p,dq,bm m,di d]):=Yx day p m ds d hb
theorem Zt(day:Int)(p:aO)(m:List (Int×PStart))(ds:List PDeed)(d:PDeed)(hb:By (CX day p m ds d) true):kD 95 [aU d,.ls ((am (au m d.act) d ds).map aJ),.ptr 1 0 0 0,.ptr 0 0 0 0,.ptr 2 0 0 0] (av [iM day,gI p,dq,bm m,di d]) (.tuple []) (av [iM day,gI p,gr 5 0 1,bm m,di d,pI 0 [d]]):=by
  obtain⟨h,h1|⟨h1,h2⟩⟩:=Pt hb
  · exact Zn d _ day p m h h1
  · exact Zm d _ day p m h h1 h2
theorem Zs(day:Int)(p:aO)(m:List (Int×PStart))(ds:List PDeed)(d:PDeed)(ep n:Nat)(out:List PDeed)(hb:By (CX day p m ds d) false):kD 95 [aU d,.ls ((am (au m d.act) d ds).map aJ),.ptr 1 0 0 0,.ptr 0 0 0 0,.ptr 2 0 0 0] (av [iM day,gI p,gr 4 ep n,bm m,pI ep out,di d]) (.tuple []) (av [iM day,gI p,gr 4 ep n,bm m,pI ep out,di d]):=by
  rcases Vv hb with h|⟨h1,h2⟩
  · exact Zl d _ day p m ep n out h
  · exact Zi d _ day p m ep n out h1 h2
theorem Zr(day:Int)(p:aO)(m:List (Int×PStart))(ds:List PDeed)(d:PDeed)(ep n:Nat)(out:List PDeed)(hb:By (CX day p m ds d) true)(hn:n=out.length)(hn2:n<2^20):kD 95 [aU d,.ls ((am (au m d.act) d ds).map aJ),.ptr 1 0 0 0,.ptr 0 0 0 0,.ptr 2 0 0 0] (av [iM day,gI p,gr 4 ep n,bm m,pI ep out,di d]) (.tuple []) (av [iM day,gI p,gr 4 (ep+1) (n+1),bm m,pI (ep+1) (out++[d]),di d]):=by
  obtain⟨h,h1|⟨h1,h2⟩⟩:=Pt hb
  · exact Zh d _ day p m ep n out hn hn2 h h1
  · exact Zg d _ day p m ep n out hn hn2 h h1 h2
theorem PB{day:Int}{p:aO}{m:List (Int×PStart)}{ds r:List PDeed}{d:PDeed}(h:co d.it.kind=false):sZ day p m ds (d::r)=sZ day p m ds r:=by simp only[sZ,List.filter_cons,h,Bool.false_and];rfl
theorem PA{day:Int}{p:aO}{m:List (Int×PStart)}{ds r:List PDeed}{d:PDeed}(h:CX day p m ds d=false):sZ day p m ds (d::r)=sZ day p m ds r:=by simp only[sZ,List.filter_cons,h,wY];rfl
theorem Pu{day:Int}{p:aO}{m:List (Int×PStart)}{ds r:List PDeed}{d:PDeed}(h:co d.it.kind=true)(h2:CX day p m ds d=true):sZ day p m ds (d::r)=d::sZ day p m ds r:=by simp only[sZ,List.filter_cons,h,h2];rfl
structure OnA(day:Int)(p:aO)(m:List (Int×PStart))(ds r:List PDeed):Prop where
  f:sZ day p m ds ds=sZ day p m ds r
structure OnR(day:Int)(p:aO)(m:List (Int×PStart))(ds r:List PDeed)(ep n:Nat)(out:List PDeed):Prop where
  len:n=out.length
  ep:ep+1=out.length
  small:out.length+r.length≤ds.length
  f:sZ day p m ds ds=out++sZ day p m ds r
theorem OnA.no{day:Int}{p:aO}{m:List (Int×PStart)}{ds r:List PDeed}{d:PDeed}(h:OnA day p m ds (d::r))(ha:co d.it.kind=false):OnA day p m ds r:=⟨by rw[h.f,PB ha]⟩
theorem OnA.nil{day:Int}{p:aO}{m:List (Int×PStart)}{ds r:List PDeed}{d:PDeed}(h:OnA day p m ds (d::r))(hb:CX day p m ds d=false):OnA day p m ds r:=⟨by rw[h.f,PA hb]⟩
theorem OnA.new{day:Int}{p:aO}{m:List (Int×PStart)}{ds r:List PDeed}{d:PDeed}{n:Nat}(h:OnA day p m ds (d::r))(hl:(d::r).length≤ds.length)(ha:co d.it.kind=true)(hb:CX day p m ds d=true)(hn:n=1):OnR day p m ds r 0 n [d]:=⟨hn,rfl,by simp only[lC,lN]at *;omega,by rw[h.f,Pu ha hb];rfl⟩
theorem OnR.no{day:Int}{p:aO}{m:List (Int×PStart)}{ds r:List PDeed}{d:PDeed}{ep n:Nat}{out:List PDeed}(h:OnR day p m ds (d::r) ep n out)(ha:co d.it.kind=false):OnR day p m ds r ep n out:=⟨h.len,h.ep,by have:=h.small;simp only[lC]at this;omega,by rw[h.f,PB ha]⟩
theorem OnR.nil{day:Int}{p:aO}{m:List (Int×PStart)}{ds r:List PDeed}{d:PDeed}{ep n:Nat}{out:List PDeed}(h:OnR day p m ds (d::r) ep n out)(hb:CX day p m ds d=false):OnR day p m ds r ep n out:=⟨h.len,h.ep,by have:=h.small;simp only[lC]at this;omega,by rw[h.f,PA hb]⟩
theorem OnR.new{day:Int}{p:aO}{m:List (Int×PStart)}{ds r:List PDeed}{d:PDeed}{ep n k:Nat}{out:List PDeed}(h:OnR day p m ds (d::r) ep n out)(ha:co d.it.kind=true)(hb:CX day p m ds d=true)(hk:k=n+1):OnR day p m ds r (ep+1) k (out++[d]):=by
  have:=h.len;have:=h.ep;have:=h.small
  refine⟨?_,?_,?_,by rw[h.f,Pu ha hb,nw];rfl⟩<;>simp only[lA,lC,lN]at * <;>omega
theorem OnR.done{day:Int}{p:aO}{m:List (Int×PStart)}{ds:List PDeed}{ep n:Nat}{out:List PDeed}(h:OnR day p m ds [] ep n out):ep=(sZ day p m ds ds).length -1∧n=(sZ day p m ds ds).length∧out=sZ day p m ds ds:=by
  have e:sZ day p m ds ds=out:=by rw[h.f];exact ec _
  have:=h.len;have:=h.ep
  rw[e];exact⟨by omega,by omega,rfl⟩
theorem IK{α:Type}{l r:List α}{j:Nat}{a:α}(h:l.drop j=a::r):(a::r).length≤l.length:=by rw[←h,wX];omega
theorem Vy{day:Int}{p:aO}{m:List (Int×PStart)}{ds r:List PDeed}{d:PDeed}(h:sZ day p m ds (d::r)=[])(ha:co d.it.kind=true):CX day p m ds d=false:=by
  cases q:CX day p m ds d with
  |false=>rfl
  |true=>rw[Pu ha q]at h;cases h
theorem XW(gs:List PGaz)(L:List PAct)(ds:List PDeed)(day:Int)(p:aO)(hL:L.length<10000)(hd:ds.length<100000)(ha:kP 55 [.ls (gs.map al)] (.ls (L.map ab)))(hi:kP 36 [.ls (gs.map al)] (.ls (ds.map aU)))(hE:sZ day p (lW L []) ds ds=[]):
    kD 42 [.ls (gs.map al),.func (.func 95) [] [.ptr 1 0 0 0,.ptr 0 0 0 0,.ptr 2 0 0 0]] (av [iM day,gI p,dq]) (.tuple []) (av [iM day,gI p,dq]):=by
  have hlk:=pJ
  have hup:=rQ
  let q1:=[iV day];exact ed Tryz.func42 fun a=>Kp 2 ha<|Kl 0 13 (ln ab L)<|Mg 0<|OW ab L ([]:List (Int×PStart)) [0,1,4,12,13,14] (fun a _ b=>([aW<|gs.map al,bY (bV 95) [] [bz 1 0 0 0,bz 0 0 0 0,bz 2 0 0 0],AV.map 3,aW<|L.map ab,nV L.length,nV a],[aZ 1 false 0 [iV day],aZ 1 false 0 [ax p],aZ 1 false 0 [ay],AObj.map (bw aw b 0) b.length])) (fun a b=>lW L []=lW a b) (by rfl) (fun _ _ b _ _ _ c d=>Kh 0 c<|Kp 0 hi<|Kl 2 27 (ln aU ds)<|Mg 0<|VX (0:Nat) ds () [1,4,7,26,27,28] (fun a _ _=>([bY (bV 95) [] [bz 1 0 0 0,bz 0 0 0 0,bz 2 0 0 0],AV.map 3,aW<|ds.map aU,aW<|ds.map aU,nV ds.length,nV a],[aZ 1 false 0 [iV day],aZ 1 false 0 [ax p],aZ 1 false 0 [ay],AObj.map (bw aw b 0) b.length])) (fun a c _=>(ds).drop a=c∧sZ day p b ds c=[]) (fun _ a _=>a.length) (et rfl<|by(rw[←show lW L []=b from d];exact hE)) fun c d e f g=>Mc d (fun c=>have d:=fY f.1 c;have:=gL (J:=fun a _=>sZ day p b ds a=[]) (a:=e) c f.2;Kh 0 d<|M1 (.frz 3 []) (jv rt rt rt ti)<|Mf a) fun a d h=>let i:=[aa [iV a.act,iV a.item,iV a.day,iV a.it.kind,aW<|a.it.at_.map az,aW<|a.it.to.map az,iV a.it.where_,iV a.it.nth_,iV a.it.unit.act,iV a.it.unit.item,iV a.it.unit.n,iV a.it.unit.kind,ax a.it.unit.label,aW<|a.it.unit.head.map aQ,aW<|a.it.unit.words.map aQ,aW<|a.it.unit.kids.map aV,aW<|a.it.old.map m0,aW<|a.it.new.map m0,ax a.it.label,ax a.it.for_,iV a.it.start.kind,iV a.it.start.day,ax a.it.start.event,iV a.it.act,iV a.it.item,iV a.it.day,ax a.it.event,aW<|a.it.by_.map NA]];have j:=fm f.1 h;have:=ap j;have k:=fV (enc:=aU) f.1 h;have e:=ca (J:=fun a _=>sZ day p b ds a=[]) (a:=e) h f.2;Kt 0 j<|Mx k<|Kp 5 (jl a.it.kind)<|Mb (co a.it.kind) (fun _=>K1 4 (.look<|aa [iV (au b a.act).kind,iV (au b a.act).day,ax (au b a.act).event]) (hlk b a.act)<|Kp 1 (gq (au b a.act) a ds<|by(omega))<|M3 (.efx true (bP [])<|av [aZ 1 false 0 q1,aZ 1 false 0 [ax p],aZ 1 false 0 [ay],AObj.map (bw aw b 0) b.length,aZ 28 false 0 i]) (re rt (tM b.length 5<|af (f:=aw) (fun _=>rfl) b 0) rt rt rt ti) (re (aY<|some<|aZ 28 false 0 i) (aY<|some<|AObj.map (bw aw b 0) b.length) (aY<|some<|aZ 1 false 0 [ay]) (aY<|some<|aZ 1 false 0 [ax p]) (aY<|some<|aZ 1 false 0 q1) ti) (Yx day p b ds a<|by exact Vy e (by assumption))<|Kl 0 46 (dc c)<|K1 0 (.frz 4 [1,4,7,26,27,28]) (vG (tM b.length 4<|af (f:=aw) (fun _=>rfl) b 0) rt rt rt ti)<|Mf<|g (c+1) d () (et (bW f.1 h)<|by(have z:=e;rw[PA (Vy z (by assumption))]at z;exact z))<|du h) fun _=>Kl 0 46 (dc c)<|K1 0 (.frz 4 [1,4,7,26,27,28]) (vG (tM b.length 4<|af (f:=aw) (fun _=>rfl) b 0) rt rt rt ti)<|Mf<|g (c+1) d () (et (bW f.1 h)<|by(have z:=e;rw[PB (by assumption)]at z;exact z))<|du h) fun a _ b _ _ c d e _ f _ g h=>Kt 0 f<|Mx g<|K1 7 (.upd (bw aw (iZ c.number c.start b) 0) (iZ c.number c.start b).length) (hup b c)<|Kl 0 23 (dc a)<|K1 0 (.frz 4 [0,1,4,12,13,14]) (vG (tM (iZ c.number c.start b).length 4<|af (f:=aw) (fun _=>rfl) (iZ c.number c.start b) 0) rt rt rt ti)<|Mf<|e (iZ c.number c.start b)<|by exact h
def Hx(gs:List PGaz)(L:List PAct)(day:Int)(p:aO)(x0:Nat×List PAct×List (Int×PStart)):Prop:=(L).drop x0.1=x0.2.1∧lW L []=lW x0.2.1 x0.2.2
noncomputable def xj(gs:List PGaz)(L:List PAct)(day:Int)(p:aO)(x0:Nat×List PAct×List (Int×PStart)):List AV×List AObj:=([AV.ls (gs.map al),AV.func (Fn.func 95) [] [AV.ptr 1 0 0 0,AV.ptr 0 0 0 0,AV.ptr 2 0 0 0],AV.map 3,AV.ls (L.map ab),nV L.length,nV x0.1],[AObj.row 1 false 0 [iV day],AObj.row 1 false 0 [AV.str p],AObj.row 1 false 0 [AV.nils],AObj.map (bw aw x0.2.2 0) x0.2.2.length])
def Hz(ds:List PDeed)(day:Int)(p:aO)(x0:Nat×List PAct×List (Int×PStart))(x1:Nat×List PDeed×Unit):Prop:=(ds).drop x1.1=x1.2.1∧OnA day p x0.2.2 ds x1.2.1
noncomputable def xz(ds:List PDeed)(day:Int)(p:aO)(x0:Nat×List PAct×List (Int×PStart))(x1:Nat×List PDeed×Unit):List AV×List AObj:=([AV.func (Fn.func 95) [] [AV.ptr 1 0 0 0,AV.ptr 0 0 0 0,AV.ptr 2 0 0 0],AV.map 3,AV.ls (ds.map aU),AV.ls (ds.map aU),nV ds.length,nV x1.1],[AObj.row 1 false 0 [iV day],AObj.row 1 false 0 [AV.str p],AObj.row 1 false 0 [AV.nils],AObj.map (bw aw x0.2.2 0) x0.2.2.length])
def Hq(ds:List PDeed)(day:Int)(p:aO)(x0:Nat×List PAct×List (Int×PStart))(x1:Nat×List PDeed×Nat×Nat×List PDeed):Prop:=(ds).drop x1.1=x1.2.1∧OnR day p x0.2.2 ds x1.2.1 x1.2.2.1 x1.2.2.2.1 x1.2.2.2.2
noncomputable def HU(ds:List PDeed)(day:Int)(p:aO)(x0:Nat×List PAct×List (Int×PStart))(x1:Nat×List PDeed×Nat×Nat×List PDeed):List AV×List AObj:=([AV.func (Fn.func 95) [] [AV.ptr 1 0 0 0,AV.ptr 0 0 0 0,AV.ptr 2 0 0 0],AV.map 3,AV.ls (ds.map aU),AV.ls (ds.map aU),nV ds.length,nV x1.1],[AObj.row 1 false 0 [iV day],AObj.row 1 false 0 [AV.str p],AObj.row 1 false 0 [AV.slice 4 x1.2.2.1 0 x1.2.2.2.1 none],AObj.map (bw aw x0.2.2 0) x0.2.2.length,AObj.row 28 true x1.2.2.1 (x1.2.2.2.2.map aU)])
theorem XX(gs:List PGaz)(L:List PAct)(ds:List PDeed)(day:Int)(p:aO)(hL:L.length<10000)(hd:ds.length<100000)(ha:kP 55 [.ls (gs.map al)] (.ls (L.map ab)))(hi:kP 36 [.ls (gs.map al)] (.ls (ds.map aU)))(hE:sZ day p (lW L []) ds ds≠[]):
    kD 42 [.ls (gs.map al),.func (.func 95) [] [.ptr 1 0 0 0,.ptr 0 0 0 0,.ptr 2 0 0 0]] (av [iM day,gI p,dq]) (.tuple []) (av [iM day,gI p,gr 3 ((sZ day p (lW L []) ds ds).length -1) (sZ day p (lW L []) ds ds).length,pI ((sZ day p (lW L []) ds ds).length -1) (sZ day p (lW L []) ds ds)]):=by
  have hlk:=pJ
  have hup:=rQ
  let q5:=[iV day];let q8:=bP [];let q10:=some (aZ 1 false 0 [ax p]);let q11:=some (aZ 1 false 0 q5);exact Jt Tryz.func42<|Kp 2 ha<|Kl 0 13 (ln ab L)<|Mg 0<|ML (Nat×List PAct×List (Int×PStart)) [0,1,4,12,13,14] (xj gs L day p) (Hx gs L day p) (fun a=>a.2.1.length) (0,L,[]) (aY<|xj gs L day p (0,L,[])) (et (rfl:List.drop 0 (L)=L) (by rfl:(lW L []=lW L []))) fun a b c=>let d:=some<|AObj.map (bw aw a.2.2 0) a.2.2.length;Mi (fun a b=>lW L []=lW a b) ab b (fun _ b c=>Kh 0 b<|Kp 0 hi<|Kl 2 27 (ln aU ds)<|Mg 0<|MM (Nat×List PDeed×Unit) (Nat×List PDeed×Nat×Nat×List PDeed) [1,4,7,26,27,28] (xz ds day p a) (HU ds day p a) (Hz ds day p a) (Hq ds day p a) (fun a=>a.2.1.length) (fun a=>a.2.1.length) (.inl (0,ds,())) (aY<|xz ds day p a (0,ds,())) (et (rfl:List.drop 0 (ds)=ds) (by(exact⟨rfl⟩):(OnA day p a.2.2 ds ds))) (fun b e f=>Mc b.2.1 (fun d=>have f:=fY e.1 d;have b:=gL (J:=fun b _=>OnA day p a.2.2 ds b) (a:=b.2.2) d e.2;Kh 0 f<|Mw .abs (by exact hE (by rw[show lW L []=a.2.2 from c];exact b.f):False)) fun c g h=>let i:=[aa [iV c.act,iV c.item,iV c.day,iV c.it.kind,aW<|c.it.at_.map az,aW<|c.it.to.map az,iV c.it.where_,iV c.it.nth_,iV c.it.unit.act,iV c.it.unit.item,iV c.it.unit.n,iV c.it.unit.kind,ax c.it.unit.label,aW<|c.it.unit.head.map aQ,aW<|c.it.unit.words.map aQ,aW<|c.it.unit.kids.map aV,aW<|c.it.old.map m0,aW<|c.it.new.map m0,ax c.it.label,ax c.it.for_,iV c.it.start.kind,iV c.it.start.day,ax c.it.start.event,iV c.it.act,iV c.it.item,iV c.it.day,ax c.it.event,aW<|c.it.by_.map NA]];let j:=aa [iV (au a.2.2 c.act).kind,iV (au a.2.2 c.act).day,ax (au a.2.2 c.act).event];have k:=fm e.1 h;have:=ap k;have l:=fV (enc:=aU) e.1 h;have m:=ca (J:=fun b _=>OnA day p a.2.2 ds b) (a:=b.2.2) h e.2;Kt 0 k<|Mx l<|Kp 5 (jl c.it.kind)<|Mb (co c.it.kind) (fun _=>Ms (CX day p a.2.2 ds c) (fun d=>K1 4 (.look j) (hlk a.2.2 c.act)<|Kp 1 (gq (au a.2.2 c.act) c ds<|by(omega))<|M3 (.efx false q8<|av [aZ 1 false 0 q5,aZ 1 false 0 [ax p],aZ 1 false 0 [aD 5 0 0 1 none],AObj.map (bw aw a.2.2 0) a.2.2.length,aZ 28 false 0 i,aZ 28 true 0 i]) (re rt (tM a.2.2.length 5<|af (f:=aw) (fun _=>rfl) a.2.2 0) rt rt rt ti) ti (Zt day p a.2.2 ds c d)<|Kl 0 46 (dc b.1)<|K1 0 (.ren [0,1,2,3,5,4] [3] [1,4,7,26,27,28]) (tN a.2.2.length<|af (f:=aw) (fun _=>rfl) a.2.2 0)<|M1 (.frz 5 [1,4,7,26,27,28]) (re rt (tM a.2.2.length 5<|af (f:=aw) (fun _=>rfl) a.2.2 0) rt rt rt ti)<|Mf<|f (.inr (b.1+1,g,(0,1,[c]))) (et (bW e.1 h) (by exact m.new (IK (e.1.trans h)) (by assumption) (by assumption) rfl:(OnR day p a.2.2 ds g (0:Nat) (1:Nat) [c])))<|du h) fun k=>K1 4 (.look j) (hlk a.2.2 c.act)<|Kp 1 (gq (au a.2.2 c.act) c ds<|by(omega))<|M3 (.efx true q8<|av [aZ 1 false 0 q5,aZ 1 false 0 [ax p],aZ 1 false 0 [ay],AObj.map (bw aw a.2.2 0) a.2.2.length,aZ 28 false 0 i]) (re rt (tM a.2.2.length 5<|af (f:=aw) (fun _=>rfl) a.2.2 0) rt rt rt ti) (re (aY<|some<|aZ 28 false 0 i) (aY d) (aY<|some<|aZ 1 false 0 [ay]) (aY q10) (aY q11) ti) (Zu day p a.2.2 ds c k)<|Kl 0 46 (dc b.1)<|K1 0 (.frz 4 [1,4,7,26,27,28]) (vG (tM a.2.2.length 4<|af (f:=aw) (fun _=>rfl) a.2.2 0) rt rt rt ti)<|Mf<|f (.inl (b.1+1,g,())) (et (bW e.1 h) (by exact m.nil (by assumption):(OnA day p a.2.2 ds g)))<|du h) fun _=>Kl 0 46 (dc b.1)<|K1 0 (.frz 4 [1,4,7,26,27,28]) (vG (tM a.2.2.length 4<|af (f:=aw) (fun _=>rfl) a.2.2 0) rt rt rt ti)<|Mf<|f (.inl (b.1+1,g,())) (et (bW e.1 h) (by exact m.no (by assumption):(OnA day p a.2.2 ds g)))<|du h) fun b e f=>let g:=[aD 4 b.2.2.1 0 b.2.2.2.1 none];let h:=List.map aU b.2.2.2.2;Mc b.2.1 (fun d=>have f:=fY e.1 d;have d:=gL (J:=fun b c=>OnR day p a.2.2 ds b c.1 c.2.1 c.2.2) (a:=b.2.2) d e.2;Kh 0 f<|M2 (.ren [0,1,2,4,3] [4,3] []) (tS 28 true b.2.2.1<|aX xV b.2.2.2.2) (tN a.2.2.length<|af (f:=aw) (fun _=>rfl) a.2.2 0)<|M1 (.frz 4 []) (vG (tR 28 true b.2.2.1 4<|aX xV b.2.2.2.2) rt rt rt ti)<|Mf<|et (aY q8) (by(have q:=d.done;rw[show lW L []=a.2.2 from c,q.1,q.2.1,q.2.2]):(av [AObj.row 1 false 0 [iV day],AObj.row 1 false 0 [AV.str p],AObj.row 1 false 0 [AV.slice 3 b.2.2.1 0 b.2.2.2.1 none],AObj.row 28 true b.2.2.1 (b.2.2.2.2.map aU)])=(av [iM day,gI p,gr 3 ((sZ day p (lW L []) ds ds).length -1) (sZ day p (lW L []) ds ds).length,pI ((sZ day p (lW L []) ds ds).length -1) (sZ day p (lW L []) ds ds)]))) fun c i j=>let k:=[aa [iV c.act,iV c.item,iV c.day,iV c.it.kind,aW<|c.it.at_.map az,aW<|c.it.to.map az,iV c.it.where_,iV c.it.nth_,iV c.it.unit.act,iV c.it.unit.item,iV c.it.unit.n,iV c.it.unit.kind,ax c.it.unit.label,aW<|c.it.unit.head.map aQ,aW<|c.it.unit.words.map aQ,aW<|c.it.unit.kids.map aV,aW<|c.it.old.map m0,aW<|c.it.new.map m0,ax c.it.label,ax c.it.for_,iV c.it.start.kind,iV c.it.start.day,ax c.it.start.event,iV c.it.act,iV c.it.item,iV c.it.day,ax c.it.event,aW<|c.it.by_.map NA]];let l:=aa [iV (au a.2.2 c.act).kind,iV (au a.2.2 c.act).day,ax (au a.2.2 c.act).event];have m:=fm e.1 j;have:=ap m;have n:=fV (enc:=aU) e.1 j;have o:=ca (J:=fun b c=>OnR day p a.2.2 ds b c.1 c.2.1 c.2.2) (a:=b.2.2) j e.2;Kt 0 m<|Mx n<|Kp 5 (jl c.it.kind)<|Mb (co c.it.kind) (fun _=>Ms (CX day p a.2.2 ds c) (fun d=>K1 4 (.look l) (hlk a.2.2 c.act)<|Kp 1 (gq (au a.2.2 c.act) c ds<|by(omega))<|M3 (.efx false q8<|av [aZ 1 false 0 q5,aZ 1 false 0 [ax p],aZ 1 false 0 [aD 4 (b.2.2.1+1) 0 (b.2.2.2.1+1) none],AObj.map (bw aw a.2.2 0) a.2.2.length,aZ 28 true (b.2.2.1+1)<|(b.2.2.2.2++[c]).map aU,aZ 28 false 0 k]) (DI rt (tR 28 true b.2.2.1 6<|aX xV b.2.2.2.2) (tM a.2.2.length 6<|af (f:=aw) (fun _=>rfl) a.2.2 0) rt rt rt ti) ti (Zr day p a.2.2 ds c b.2.2.1 b.2.2.2.1 b.2.2.2.2 d (by exact o.len)<|by(have z:=o.small;have z2:=o.len;simp only[lC]at z;omega))<|Kl 0 46 (dc b.1)<|K1 0 (.frz 5 [1,4,7,26,27,28]) (re (tR 28 true (b.2.2.1+1) 5<|aX xV<|b.2.2.2.2++[c]) (tM a.2.2.length 5<|af (f:=aw) (fun _=>rfl) a.2.2 0) rt rt rt ti)<|Mf<|f (.inr (b.1+1,i,(b.2.2.1+1,b.2.2.2.1+1,b.2.2.2.2++[c]))) (et (bW e.1 j) (by exact o.new (by assumption) (by assumption) rfl:(OnR day p a.2.2 ds i (b.2.2.1+1) (b.2.2.2.1+1) (b.2.2.2.2++[c]))))<|du j) fun m=>K1 4 (.look l) (hlk a.2.2 c.act)<|Kp 1 (gq (au a.2.2 c.act) c ds<|by(omega))<|M3 (.efx true q8<|av [aZ 1 false 0 q5,aZ 1 false 0 [ax p],aZ 1 false 0 g,AObj.map (bw aw a.2.2 0) a.2.2.length,aZ 28 true b.2.2.1 h,aZ 28 false 0 k]) (DI rt (tR 28 true b.2.2.1 6<|aX xV b.2.2.2.2) (tM a.2.2.length 6<|af (f:=aw) (fun _=>rfl) a.2.2 0) rt rt rt ti) (DI (aY<|some<|aZ 28 false 0 k) (aY<|some<|aZ 28 true b.2.2.1 h) (aY d) (aY<|some<|aZ 1 false 0 g) (aY q10) (aY q11) ti) (Zs day p a.2.2 ds c b.2.2.1 b.2.2.2.1 b.2.2.2.2 m)<|Kl 0 46 (dc b.1)<|K1 0 (.frz 5 [1,4,7,26,27,28]) (re (tR 28 true b.2.2.1 5<|aX xV b.2.2.2.2) (tM a.2.2.length 5<|af (f:=aw) (fun _=>rfl) a.2.2 0) rt rt rt ti)<|Mf<|f (.inr (b.1+1,i,(b.2.2.1,b.2.2.2.1,b.2.2.2.2))) (et (bW e.1 j) (by exact o.nil (by assumption):(OnR day p a.2.2 ds i b.2.2.1 b.2.2.2.1 b.2.2.2.2)))<|du j) fun _=>Kl 0 46 (dc b.1)<|K1 0 (.frz 5 [1,4,7,26,27,28]) (re (tR 28 true b.2.2.1 5<|aX xV b.2.2.2.2) (tM a.2.2.length 5<|af (f:=aw) (fun _=>rfl) a.2.2 0) rt rt rt ti)<|Mf<|f (.inr (b.1+1,i,(b.2.2.1,b.2.2.2.1,b.2.2.2.2))) (et (bW e.1 j) (by exact o.no (by assumption):(OnR day p a.2.2 ds i b.2.2.1 b.2.2.2.1 b.2.2.2.2)))<|du j) fun d e f g _ h i=>Kt 0 g<|Mx h<|K1 7 (.upd (bw aw (iZ d.number d.start a.2.2) 0) (iZ d.number d.start a.2.2).length) (hup a.2.2 d)<|Kl 0 23 (dc a.1)<|K1 0 (.frz 4 [0,1,4,12,13,14]) (vG (tM (iZ d.number d.start a.2.2).length 4<|af (f:=aw) (fun _=>rfl) (iZ d.number d.start a.2.2) 0) rt rt rt ti)<|Mf<|c (a.1+1,e,iZ d.number d.start a.2.2) (et (bW b.1 f) (by exact i:(lW L []=lW e (iZ d.number d.start a.2.2))))<|du f
/-- What is in force on a day for a purpose. -/
noncomputable def Zz(day:Int)(p:aO)(L:List PAct)(ds:List PDeed):List PDeed:=sZ day p (lW L []) ds ds
theorem Yq(gs:List PGaz)(day:Int)(p:aO)(hc:kD 42 [.ls (gs.map al),.func (.func 95) [] [.ptr 1 0 0 0,.ptr 0 0 0 0,.ptr 2 0 0 0]] (av [iM day,gI p,dq]) (.tuple []) (av [iM day,gI p,dq])):kP 62 [iV day,.str p,.ls (gs.map al)] (.ls (([]:List PDeed).map aU)):=by
  exact bI Tryz.func62<|Ke 5 hc<|Kf 1 be
theorem YU(gs:List PGaz)(day:Int)(p:aO)(X:List PDeed)(k:Nat)(hz:0<X.length)(hb:X.length<2^40)(hc:kD 42 [.ls (gs.map al),.func (.func 95) [] [.ptr 1 0 0 0,.ptr 0 0 0 0,.ptr 2 0 0 0]] (av [iM day,gI p,dq]) (.tuple []) (av [iM day,gI p,gr 3 k X.length,pI k X])):kP 62 [iV day,.str p,.ls (gs.map al)] (.ls (X.map aU)):=by
  let q:=List.map aU X;exact bI Tryz.func62<|Ke 5 hc<|Mg 1<|M2 (.fsl 0 [] 6 q) ti (bT (aY k) (tA aU X X.length rfl)<|aX xV X)<|Ml 6 (e9 q false<|aX xV X)<|Mf<|bd<|aW q
theorem Yz(gs:List PGaz)(L:List PAct)(ds:List PDeed)(day:Int)(p:aO)(hL:L.length<10000)(hd:ds.length<100000)(ha:kP 55 [.ls (gs.map al)] (.ls (L.map ab)))(hi:kP 36 [.ls (gs.map al)] (.ls (ds.map aU))):kP 62 [iV day,.str p,.ls (gs.map al)] (.ls ((Zz day p L ds).map aU)):=by
  by_cases hE:Zz day p L ds=[]
  · rw[hE];exact Yq gs day p (XW gs L ds day p hL hd ha hi hE)
  · have hl:(Zz day p L ds).length≤ds.length:=List.length_filter_le ..
    exact YU gs day p _ _ (pt.2 hE) (by omega) (XX gs L ds day p hL hd ha hi hE)
/-- The book with nothing in it. -/
def uc:TUnit:=⟨0,0,0,0,[],[],[],[]⟩
theorem JU:OkB uc:=⟨by decide,by decide,fun x hx=>by
  have e:x=uc:=by simpa[uc,bu,dA]using hx
  subst e;exact⟨bL _,bL _⟩⟩
theorem Xd(X:List PDeed)(hl:X.length<2^30)(ho:∀d,d∈X→wC d.it):kP 63 [zU,.ls (X.map aU)] (.tuple [eU (dx uc X),.ls ((fw uc X).map io)]):=
  (SX uc X JU hl ho).args (.cons (v9 _ _ (by kernel_rfl)).1 (.cons (Le.refl _) .nil))
theorem Rh(X:List PDeed)(hl:X.length<2^30)(ho:∀d,d∈X→wC d.it):kP 48 [.ls (X.map aU)] (.tuple [eU (dx uc X),.ls ((fw uc X).map io)]):=by
  have h:=Xd X hl ho
  exact bI Tryz.func48<|Kp 3 h<|Kf 3<|bd<|bP [aa [iV (dx uc X).act,iV (dx uc X).item,iV (dx uc X).n,iV (dx uc X).kind,ax (dx uc X).label,aW<|List.map aQ (dx uc X).head,aW<|List.map aQ (dx uc X).words,aW<|List.map aV (dx uc X).kids],aW<|(fw uc X).map io]
theorem UD(gs:List PGaz)(day:Int)(p:aO)(X:List PDeed)(hon:kP 62 [iV day,.str p,.ls (gs.map al)] (.ls (X.map aU))):kP 47 [iV day,.str p,.ls (gs.map al)] (.ls (X.map aU)):=by
  exact bI Tryz.func47<|Kp 3 hon<|Kf 0<|bd<|aW<|X.map aU
theorem RG(gs:List PGaz)(day:Int)(p:aO)(X:List PDeed)(hl:X.length<2^30)(ho:∀d,d∈X→wC d.it)(hon:kP 62 [iV day,.str p,.ls (gs.map al)] (.ls (X.map aU))):kP 27 [iV day,.str p,.ls (gs.map al)] (eU (dx uc X)):=by
  have h1:=UD gs day p X hon
  have h2:=Rh X hl ho
  exact bI Tryz.func27<|Kp 3 h1<|Mp h2<|Kf 7<|bd<|aa [iV (dx uc X).act,iV (dx uc X).item,iV (dx uc X).n,iV (dx uc X).kind,ax (dx uc X).label,aW<|List.map aQ (dx uc X).head,aW<|List.map aQ (dx uc X).words,aW<|List.map aV (dx uc X).kids]
/-- What the bound on gazettes tells. -/
structure OkG(gs:List PGaz):Prop where
  fit:oa gs
  len:gs.length≤9
  acts:∀g,g∈gs→g.acts.length≤8
  items:∀g,g∈gs→∀a,a∈g.acts→a.items.length≤24∧∀x,x∈a.items→mR x=true
theorem GB{most:Int}:∀(l:List PAct)(n m:Int),most=24→0≤n→mX most l n=some m→0≤m∧∀a,a∈l→a.items.length≤24∧∀x,x∈a.items→mR x=true
  |[],n,m,_,hn,h=>by simp only[mX,xd]at h;exact⟨h▸hn,fun a ha=>by cases ha⟩
  | b::r,n,m,hm,hn,h=>by
    unfold mX at h
    cases hb:AL most n b with
    |true=>rw[hb]at h;cases h
    | false=>
      rw[hb]at h
      unfold AL at hb
      simp only[Bo]at hb
      obtain⟨z1,_,_,z2⟩:=hb
      have z1:=aG z1
      obtain⟨q1,q2⟩:=GB r (n+Int.ofNat b.items.length) m hm (by simp only[oN]at *;omega) h
      refine⟨q1,fun a ha=>?_⟩
      rcases fC.1 ha with rfl|ha
      · refine⟨by simp only[oN]at *;omega,fun x hx=>?_⟩
        have z3:=qh z2
        exact nq.1 z3 x hx
      · exact q2 a ha
theorem LU:∀(l:List PGaz)(n:Int),0≤n→ux 24 l n=true→∀g,g∈l→g.acts.length≤8∧∀a,a∈g.acts→a.items.length≤24∧∀x,x∈a.items→mR x=true
  |[],_,_,_,g,hg=>by cases hg
  | x::r,n,hn,h,g,hg=>by
    unfold ux at h
    cases hb:vD x with
    |true=>rw[hb]at h;cases h
    | false=>
      rw[hb]at h
      cases ha:mX 24 x.acts n with
      |none=>rw[ha]at h;cases h
      | some m=>
        rw[ha]at h
        obtain⟨q1,q2⟩:=GB x.acts n m rfl hn ha
        rcases fC.1 hg with rfl|hg
        · unfold vD at hb
          have:=aG (Bo.1 hb).1
          exact⟨by simp only[oN]at *;omega,q2⟩
        · exact LU r m q1 h g hg
theorem WX{gs:List PGaz}{p:aO}(hf:oa gs)(h:GD gs p=true):OkG gs∧gs.length≤8:=by
  unfold GD at h
  have h1:=(n5.1 h).1
  unfold Nn at h1
  cases hb:aC 8 (Int.ofNat gs.length)with
  |true=>rw[hb]at h1;cases h1
  | false=>
    rw[hb]at h1
    have:=aG hb
    have hl:gs.length≤8:=by simp only[oN]at *;omega
    have q:=LU gs 0 (by omega) h1
    exact⟨⟨hf,by omega,fun g hg=>(q g hg).1,fun g hg=>(q g hg).2⟩,hl⟩
theorem BI:∀(ys out:List PAct),(ys.foldl kX out).length≤out.length+ys.length
  |[],out=>ao _
  | a::r,out=>by
    have:=BI r (kX out a);have:=(OM out a).2
    simp only[ml,lC];omega
theorem AQ:∀(gs:List PGaz),(∀g,g∈gs→g.acts.length≤8)→∀out,(bU gs out).length≤out.length+8*gs.length
  |[],_,out=>ao _
  | g::r,hb,out=>by
    have:=AQ r (fun x hx=>hb x (fQ _ hx)) (g.acts.foldl kX out)
    have:=BI g.acts out
    have:=hb g (eN ..)
    simp only[bU,ml,lC]at *
    omega
theorem OL{out:List PAct}{a b:PAct}(h:b∈kX out a):b∈out∨b=a:=by
  unfold kX at h
  split at h
  · exact .inl h
  · rcases jy.1 h with h|h
    · exact .inl h
    · exact .inr (nj.1 h)
theorem BH:∀(ys out:List PAct)(b:PAct),b∈ys.foldl kX out→b∈out∨b∈ys
  |[],out,b,h=>.inl h
  | a::r,out,b,h=>by
    rcases BH r (kX out a) b h with h|h
    · rcases OL h with h|rfl
      · exact .inl h
      · exact .inr (eN ..)
    · exact .inr (fQ _ h)
theorem z8:∀(gs:List PGaz)(out:List PAct)(b:PAct),b∈bU gs out→b∈out∨∃g,g∈gs∧b∈g.acts
  |[],out,b,h=>.inl h
  | g::r,out,b,h=>by
    rcases z8 r (g.acts.foldl kX out) b h with h|⟨g2,q1,q2⟩
    · rcases BH g.acts out b h with h|h
      · exact .inl h
      · exact .inr ⟨g,eN ..,h⟩
    · exact .inr ⟨g2,fQ _ q1,q2⟩
theorem uP:∀(l:List PAct),(∀a,a∈l→a.items.length≤24)→(m9 l).length≤24*l.length
  |[],_=>ao _
  | a::r,h=>by
    have:=uP r fun b hb=>h b (fQ _ hb)
    have:=h a (eN ..)
    simp only[m9,List.flatMap_cons,lA,lm,lC]at *
    omega
theorem OkG.act{gs:List PGaz}(h:OkG gs){a:PAct}(ha:a∈fy gs):a.items.length≤24∧(∀x,x∈a.items→mR x=true)∧Q4 a:=by
  have ha:=(ph gs).mem_iff.1 ha
  rcases z8 gs [] a ha with q|⟨g,h1,h2⟩
  · cases q
  · exact⟨(h.items g h1 a h2).1,(h.items g h1 a h2).2,(h.fit.2 g h1).2 a h2⟩
/-- The items as they stand. -/
noncomputable def fp(gs:List PGaz):List PDeed:=bO (aB (fy gs) []) (fy gs)
theorem OkG.lens{gs:List PGaz}(h:OkG gs):(fy gs).length≤72∧(fp gs).length≤1728:=by
  have h1:=AQ gs h.acts []
  have h2:=(ph gs).length_eq
  have h3:=uP (fy gs) fun a ha=>(h.act ha).1
  have h4:=h.len
  have h5:(fp gs).length=(m9 (fy gs)).length:=b7 ..
  simp only[lN]at h1
  omega
theorem OkG.all{gs:List PGaz}(h:OkG gs):kP 55 [.ls (gs.map al)] (.ls ((fy gs).map ab))∧kP 36 [.ls (gs.map al)] (.ls ((fp gs).map aU)):=by
  have h1:=h.lens
  have h2:=(ph gs).length_eq
  have h3:(fp gs).length=(m9 (fy gs)).length:=b7 ..
  have h4:=h.len
  exact⟨LC gs h.fit (fun g hg=>nY (h.acts g hg) (by decide)) (by omega) (by omega),Qv gs h.fit (fun g hg=>nY (h.acts g hg) (by decide)) (by omega) (by omega) (fun a ha=>nY (h.act ha).1 (by decide)) (by omega)⟩
theorem Xx{x y:PItem}(h:mR x=true)(hy:y∈x.by_):mR y=true:=by
  rw[DH]at h
  simp only[bx]at h
  have:=nq.1 h.2.2.2.2.2 y hy
  unfold Hw at this
  exact(n5.1 this).2
theorem Xz{x y:PItem}(h:nW x)(hy:y∈x.by_):nW y:=(qA.1 h).2.2.2.2.2.2 y hy
theorem FJ{K V:Type}{keq:K→K→Bool}{k:K}{v:V}:∀{l:List (K×V)}{e:K×V},e∈fD keq k v l→e∈l∨e.2=v
  | [],e,h=>by
    rw[fD,nj]at h;exact .inr (by rw[h])
  | (j,u)::r,e,h=>by
    rw[fD]at h
    cases q:keq k j with
    | true=>
      rw[q]at h
      rcases fC.1 h with h|h
      · exact .inr (by rw[h])
      · exact .inl (fQ _ h)
    | false=>
      rw[q]at h
      rcases fC.1 h with h|h
      · exact .inl (by rw[h];exact eN ..)
      · rcases FJ (l:=r) h with h|h
        · exact .inl (fQ _ h)
        · exact .inr h
theorem Ga{K V:Type}{keq:K→K→Bool}{k:K}{v:V}:∀{l:List (K×V)},nS keq k l=some v→∃e,e∈l∧e.2=v
  |[],h=>by cases h
  | (j,u)::r,h=>by
    rw[nS]at h
    cases q:keq k j with
    |true=>rw[q]at h;exact⟨(j,u),eN ..,Jn h⟩
    | false=>
      rw[q]at h
      obtain⟨e,h1,h2⟩:=Ga (l:=r) h
      exact⟨e,fQ _ h1,h2⟩
theorem NE{m:List ((Int×Int)×PItem)}{x:PItem}(hm:∀e,e∈m→wC e.2)(h1:mR x=true)(h2:nW x):∀e,e∈jC m x→wC e.2:=by
  unfold jC
  split
  · rename_i h
    simp only[bx]at h
    have hl:=ap h.1.2
    have hy:gD x.by_ 0∈x.by_:=ib (by simp only[oN]at hl;omega)
    intro e he
    rcases FJ he with q|q
    · exact hm e q
    · rw[q];exact PN (Xz h2 hy) (Xx h1 hy)
  · exact hm
theorem CH:∀(xs:List PItem)(m:List ((Int×Int)×PItem)),(∀e,e∈m→wC e.2)→(∀x,x∈xs→mR x=true∧nW x)→∀e,e∈xs.foldl jC m→wC e.2
  |[],_,hm,_=>hm
  |x::r,m,hm,h=>CH r (jC m x) (NE hm (h x (eN ..)).1 (h x (eN ..)).2) fun y hy=>h y (fQ _ hy)
theorem CG:∀(l:List PAct)(m:List ((Int×Int)×PItem)),(∀e,e∈m→wC e.2)→(∀a,a∈l→∀x,x∈a.items→mR x=true∧nW x)→∀e,e∈aB l m→wC e.2
  |[],_,hm,_=>hm
  |a::r,m,hm,h=>CG r (a.items.foldl jC m) (CH a.items m hm (h a (eN ..))) fun b hb=>h b (fQ _ hb)
theorem Av(a:PAct):∀(l:List PItem)(i:Nat)(d:PDeed),d∈cW a l i→d.it∈l
  |[],_,d,h=>by cases h
  | x::r,i,d,h=>by
    rcases fC.1 h with rfl|h
    · exact eN ..
    · exact fQ _ (Av a r _ d h)
theorem OkG.deed{gs:List PGaz}(h:OkG gs){d:PDeed}(hd:d∈fp gs):wC d.it:=by
  have hi:∀a,a∈fy gs→∀x,x∈a.items→mR x=true∧nW x:=fun a ha x hx=>⟨(h.act ha).2.1 x hx,(h.act ha).2.2.2 x hx⟩
  obtain⟨o,ho,rfl⟩:=ki.1 hd
  obtain⟨a,ha,hoa⟩:=List.mem_flatMap.1 ho
  have h1:=hi a ha _ (Av a _ _ _ hoa)
  have h2:wC o.it:=PN h1.2 h1.1
  unfold nX
  split
  · rename_i hc
    have hc:=(n5.1 hc).1
    unfold qr at hc
    show wC (HM (aB (fy gs) []) o)
    unfold HM
    cases q:nS pv (o.act,o.item) (aB (fy gs) [])with
    |none=>rw[q]at hc;cases hc
    | some v=>
      obtain⟨e,e1,e2⟩:=Ga q
      have:=CG (fy gs) [] (fun e he=>by cases he) hi e e1
      rw[e2]at this
      exact this
  · exact h2
/-- What is in force. -/
noncomputable def vF(day:Int)(p:aO)(gs:List PGaz):List PDeed:=Zz day p (fy gs) (fp gs)
noncomputable def dI(day:Int)(p:aO)(gs:List PGaz):TUnit:=dx uc (vF day p gs)
theorem OkG.force{gs:List PGaz}(h:OkG gs)(day:Int)(p:aO):(vF day p gs).length<2^30∧(∀d,d∈vF day p gs→wC d.it)∧kP 62 [iV day,.str p,.ls (gs.map al)] (.ls ((vF day p gs).map aU)):=by
  have hl:=h.lens
  have h1:(vF day p gs).length≤(fp gs).length:=List.length_filter_le ..
  exact⟨by omega,fun d hd=>h.deed (List.mem_filter.1 hd).1,Yz gs _ _ day p (by omega) (by omega) h.all.1 h.all.2⟩
theorem OkG.book{gs:List PGaz}(h:OkG gs)(day:Int)(p:aO):kP 27 [iV day,.str p,.ls (gs.map al)] (eU (dI day p gs)):=
  RG gs day p _ (h.force day p).1 (h.force day p).2.1 (h.force day p).2.2
theorem OkG.okB{gs:List PGaz}(h:OkG gs)(day:Int)(p:aO):OkB (dI day p gs):=Hb JU (h.force day p).2.1
end Go.Proofs.YtjokefckffbpeaaGreatDoor
