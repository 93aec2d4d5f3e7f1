/- Functions walked: what each of them answers, for the law of uniqueness: part 7. Conditions: those that each theorem names. -/
import Derived.Test.YtidehekfpcgelaaGreatDoorH6
namespace Go.Proofs.YtidehekfpcgelaaGreatDoor
open Go Go.Ev
theorem xV:kP 68 [.nils] (.ls ((jj []).map aV)):=(jV [] (by simp)).onArgs (.cons Le.nils .nil)
theorem D9{g:Int→Bool}{K:List Int}{x e:Nat}{S:List PSpan}(h:S=kj g (K.drop (x-1)))(h1:1≤x)(h2:x<K.length)(hg:g (gD K (x-1))=true)(he:e=x+1):S=⟨gD K (x-1),gD K x⟩::kj g (K.drop (e-1)):=by rw[h,Cl h1 h2,hg,he]
theorem EQ{g:Int→Bool}{K:List Int}{x e:Nat}{S:List PSpan}(h:S=kj g (K.drop (x-1)))(h1:1≤x)(h2:x<K.length)(hg:g (gD K (x-1))=false)(he:e=x+1):S=kj g (K.drop (e-1)):=by rw[h,Cl h1 h2,hg,he]
theorem aaj:bb (dR (pI []))=[]:=qK (by have z:=A8 [];exact Nat.le_zero.1 z)
theorem YP{A B x y:List PSpan}(h1:A=x)(h2:B=y):x++y=A++B:=by rw[h1,h2]
theorem S6{A B x:List PSpan}(h1:A=x)(h2:B=[]):x=A++B:=by rw[h1,h2,dO]
theorem XZ{A B y:List PSpan}(h1:A=[])(h2:B=y):y=A++B:=by rw[h1,h2];rfl
theorem VW{A r:List PSpan}{w:PSpan}(h:A=w::r)(hl:A.length≤1048577):r.length<2^30:=by rw[h,lC]at hl;omega
theorem UJ{A B:List PSpan}{w v:PSpan}{r s:List PSpan}(h:A=w::r)(k:B=v::s)(hl:A.length≤1048577)(kl:B.length≤1048577):small (r.length+1+((v::s).map aV).length) 16=true:=by
  rw[h,lC]at hl;rw[k,lC]at kl
  rw[lM,lC];refine eO (m:=2^31) ?_ ?_ ?_<;>omega
theorem K8{B:List PSpan}{v:PSpan}{s:List PSpan}(k:B=v::s)(kl:B.length≤1048577):small ((v::s).map aV).length 16=true:=by
  rw[k,lC]at kl
  rw[lM,lC];refine eO (m:=2^31) ?_ ?_ ?_<;>omega
def S9(F:Nat)(A:List PSpan)(B:List PSpan)(z20:List PSpan):Prop:=z20=A++B
noncomputable def S8(F:Nat)(A:List PSpan)(B:List PSpan)(z20:List PSpan):List AV×List AObj:=([AV.ls (A.map aV),AV.ls (B.map aV),AV.func (Fn.func F) [] [],AV.nils,AV.ls (z20.map aV),nV z20.length,iV 0],[])
def OM(F:Nat)(A:List PSpan)(B:List PSpan)(z20:List PSpan)(z37:List Int):Prop:=z37=iF z20
noncomputable def OL(F:Nat)(A:List PSpan)(B:List PSpan)(z20:List PSpan)(z37:List Int):List AV×List AObj:=([AV.ls (A.map aV),AV.ls (B.map aV),AV.func (Fn.func F) [] [],AV.ls (z37.map bo)],[])
def OI(F:Nat)(A:List PSpan)(B:List PSpan)(z20:List PSpan)(z37:List Int):Prop:=z37=iF z20
noncomputable def OH(F:Nat)(A:List PSpan)(B:List PSpan)(z20:List PSpan)(z37:List Int):List AV×List AObj:=([AV.ls (A.map aV),AV.ls (B.map aV),AV.func (Fn.func F) [] [],AV.ls (z37.map bo)],[])
theorem MN(F:Nat)(op:Bool→Bool→Bool)(hF:∀x y,bQ Tryz.prog G F [.bool x,.bool y] (.bool (op x y)))(e0:op false false=false)(a b:List PSpan)(ha:a.length<2^30)(hb:b.length<2^30):
    bQ Tryz.prog G 324 [.ls (a.map aV),.ls (b.map aV),.func (.func F) [] []] (.ls ((sE op a b).map aV)):=by
  have nA:=jV a ha
  have nB:=jV b hb
  have hA:=mM a
  have hB:=mM b
  have hd:=ON e0 (a:=a) (b:=b) rfl rfl
  generalize jj a=A at *
  generalize jj b=B at *
  have lA:=hA.len
  have lB:=hB.len
  have hasA:∀d,bQ Tryz.prog G 67 [.ls (A.map aV),.int .i64 d] (.bool (iP A d)):=fun d=>JC A d hA.sort (by omega)
  have hasB:∀d,bQ Tryz.prog G 67 [.ls (B.map aV),.int .i64 d] (.bool (iP B d)):=fun d=>JC B d hB.sort (by omega)
  obtain⟨g,hg⟩:∃g:Int→Bool,g=fun d=>op (iP A d) (iP B d):=⟨_,rfl⟩
  have hgv:∀d v0,op (iP A d) (iP B d)=v0→g d=v0:=fun d v0 h=>by rw[hg];exact h
  rw[←hg]at hd
  have hcl:∀x,x=A++B→(iF x).length<2^30:=fun x hx=>by
    have z:=A8 x
    rw[hx,eZ]at z
    rw[hx];omega
  have hll:∀x,x=A++B→x.length<2^22:=fun x hx=>by rw[hx,eZ];omega
  obtain⟨res,hres⟩:∃res,res=sE op a b:=⟨_,rfl⟩
  rw[←hres]at hd ⊢
  have hdone:∀x y z,x=A++B→y=iF x→kj g y=z→jj z=res:=fun x y z h1 h2 h3=>by rw[←h3,h2,h1];exact hd
  clear hd hg hres hA hB
  have rr0 b' (h:(List.map aV res)=b':=by first|rfl|exact hdone _ _ _ hz20 hz37 (by rw[hx1.2.2,lm hx1.1 (by(first|omega|(simp only[aP]at *;omega)))])|exact(hdone _ _ _ hz20 hz37 (by rw[hx1.2.2.2.2,lm hx1.1 (by(first|omega|(simp only[aP]at *;omega))),dO]))|(rw[hdone _ _ _ hz20 hz37 (by rw[hx1.2.2,lm hx1.1 (by(first|omega|(simp only[aP]at *;omega)))])])|(rw[hdone _ _ _ hz20 hz37 (by rw[hx1.2.2.2.2,lm hx1.1 (by(first|omega|(simp only[aP]at *;omega))),dO])])):=h;exact bF Tryz.func324<|Kp 1 nA<|Kp 0 nB<|Mg 2<|M0 .inn<|Mj (List PSpan) [0,1,2,7,20,21,22] (S8 F A B) (S9 F A B) (fun c=>Mg 0<|Mc A (fun e=>Ml 17 (dN<|by rw[e];rfl:Le (aW []) (aW (List.map aV A)))<|Mz 17 (fun(_:([]:List AV)=[])=>Mg 1<|Mc B (fun e=>Ml 19 (dN<|by rw[e];rfl:Le (aW []) (aW (List.map aV B)))<|Kl 0 20 bM<|Kf 1<|c [] (by exact S6 (by assumption) (by assumption):[]=A++B)) fun e f i=>Ml 19 (dN<|by rw[i]:Le (aW (List.map aV (e::f))) (aW (List.map aV B)))<|M2 .apl (et (by exact jd _ _:List.map aV (e::f)≠[])<|fM 2 aV (e::f) fun _=>rfl) (by exact K8 (by assumption) lB:small (List.map aV (e::f)).length 16=true)<|M2 (.fsl 0 [0,1,2,7] 20<|List.map aV<|e::f) True.intro (ct (aK 0) (tA aV (e::f) (List.map aV<|e::f).length (by(simp only[cK,cM,eZ];done):(e::f).length=(List.map aV (e::f)).length))<|aX W6<|e::f)<|Ml 20 (fG (List.map aV<|e::f) false<|aX W6<|e::f)<|Kl 0 21 (ln aV<|e::f)<|Kf 0<|c (e::f) (by exact XZ (by assumption) (by assumption):e::f=A++B))<|Mg 1<|Mc B (fun e=>Ml 19 (dN<|by rw[e];rfl:Le (aW []) (aW (List.map aV B)))<|Kl 0 20 (fG [] true (aK 0:aq ([])=0))<|Kf 1<|c [] (by exact S6 (by assumption) (by assumption):[]=A++B)) fun e f i=>Ml 19 (dN<|by rw[i]:Le (aW (List.map aV (e::f))) (aW (List.map aV B)))<|M2 .apl (et (by exact jd _ _:List.map aV (e::f)≠[])<|fM 2 aV (e::f) fun _=>rfl) (by exact K8 (by assumption) lB:small (List.map aV (e::f)).length 16=true)<|M2 (.fsl 0 [0,1,2,7] 20<|List.map aV<|e::f) True.intro (ct (aK 0) (tA aV (e::f) (List.map aV<|e::f).length (by(simp only[cK,cM,eZ];done):(e::f).length=(List.map aV (e::f)).length))<|aX W6<|e::f)<|Ml 20 (fG (List.map aV<|e::f) false<|aX W6<|e::f)<|Kl 0 21 (ln aV<|e::f)<|Kf 0<|c (e::f) (by exact XZ (by assumption) (by assumption):e::f=A++B)) fun e f i=>Ml 17 (dN<|by rw[i]:Le (aW (List.map aV (e::f))) (aW (List.map aV A)))<|Me (SN e f<|by exact VW (by assumption) lA)<|Mg 0<|Mc B (fun i=>Ml 19 (dN<|by rw[i];rfl:Le (aW []) (aW (List.map aV B)))<|Mg 0<|M2 (.fsl 0 [0,1,2,7] 20<|List.map aV<|e::f) True.intro (ct (aK 0) (tA aV (e::f) (f.length+1) rfl)<|aX W6<|e::f)<|Ml 20 (fG (List.map aV<|e::f) false<|aX W6<|e::f)<|Kl 0 21 (ln aV<|e::f)<|Kf 0<|c (e::f) (by exact S6 (by assumption) (by assumption):e::f=A++B)) fun i j k=>Ml 19 (dN<|by rw[k]:Le (aW (List.map aV (i::j))) (aW (List.map aV B)))<|M2 .apl (et (by exact jd _ _:List.map aV (i::j)≠[])<|fM 2 aV (i::j) fun _=>rfl) (ct (aK 0) (by(simp only[cK,cM,eZ];done):f.length+1=(List.map aV (e::f)).length) (by exact UJ (by assumption) (by assumption) lA lB:small (f.length+1+(List.map aV (i::j)).length) 16=true))<|M1 (.obj 0<|aZ 2 true (0+1)<|List.map aV<|e::f++i::j) (congrArg (aZ 2 true<|0+1)<|cp (f:=aV) (l:=e::f) (ws:=i::j))<|M2 (.fsl 0 [0,1,2,7] 20<|List.map aV<|e::f++i::j) True.intro (ct (aK<|0+1) (tA aV (e::f++i::j) (f.length+1+(List.map aV<|i::j).length) (by(simp only[cK,cM,eZ];done):(e::f++i::j).length=f.length+1+(List.map aV (i::j)).length))<|aX W6<|e::f++i::j)<|Ml 20 (fG (List.map aV<|e::f++i::j) false<|aX W6<|e::f++i::j)<|Kl 0 21 (ln aV<|e::f++i::j)<|Kf 0<|c (e::f++i::j) (by exact YP (by assumption) (by assumption):e::f++i::j=A++B)) fun c hz20=>have hz20:=hz20;kZ Nat Nat (List Int) aV c [0,1,2,7,20,21,22] (fun e _=>([aW<|A.map aV,aW<|B.map aV,bv (bw F) [] [],ab,aW<|c.map aV,nV c.length,nV e],[])) (fun e _ f i j=>([aW<|A.map aV,aW<|B.map aV,bv (bw F) [] [],aN 0 f 0 i none,aW<|c.map aV,nV c.length,nV e],[aZ 1 true f<|j.map bo])) (fun e=>pI c=pI e) (fun e _ f i=>f=i.length∧(0:Nat)<i.length∧pI c=i++pI e) (by rfl) (fun _ _ _ _ _ e f=>Kh 0 e<|Kp 0 G4<|Mj (List Int) [0,1,2,7] (OL F A B c) (OM F A B c) (fun e=>Kl 1 37 bM<|Kf 0<|e [] (by(unfold iF;rw[f];exact aaj.symm):[]=iF c)) fun e hz37=>have hz37:=hz37;have:=hz37▸hcl _ hz20;Mg 1<|Tp Nat Nat Nat (List PSpan) (1:Nat) [0,1,2,7,10,11] (fun c=>([aW<|A.map aV,aW<|B.map aV,bv (bw F) [] [],aW<|e.map bo,ab,nV c],[])) (fun c f i j=>([aW<|A.map aV,aW<|B.map aV,bv (bw F) [] [],aW<|e.map bo,aN 0 f 0 i none,nV c],[aZ 2 true f<|j.map aV])) (fun c=>(1:Nat)≤c∧c≤2^30∧kj g e=kj g (e.drop<|c-1)) (fun c _ f i=>(1:Nat)≤c∧c≤2^30∧f=i.length∧i.length<c∧kj g e=i++kj g (e.drop<|c-1)) (fun c=>2^31-c) (fun c _ _ _=>2^31-c) (by exact⟨an _,by omega,rfl⟩) (fun c hx1 f i=>have hx1:=hx1;have:=hx1.1;have:=hx1.2.1;Kl 2 40 (ln bo e)<|Ka 0 (Int.ofNat c) (Int.ofNat e.length) (fun _ _=>Kl 2 46 (Fl c)<|Mx (bJ bo (by(simp only[aP,cK,kR]at *;omega):c-1<(e).length))<|Kp 4 (hasA<|gD e<|c-1)<|Kp 1 (hasB<|gD e<|c-1)<|Mp (hF (iP A<|gD e<|c-1)<|iP B<|gD e<|c-1)<|Mb (op (iP A<|gD e<|c-1)<|iP B<|gD e<|c-1) (fun _=>Kx 3 (bJ bo (by(simp only[aP,cK,kR]at *;omega):c<(e).length))<|Kl 6 43 (ji c)<|Kf 0<|i (c+1) 0 1 [PSpan.mk (gD e<|c-1)<|gD e c] (by exact⟨by(omega),by(simp only[aP]at *;omega),rfl,by(simp only[cM,gT];omega),D9 hx1.2.2 hx1.1 (by(simp only[aP]at *;omega)) (hgv _ _ (by assumption)) rfl⟩)<|by(omega)) fun _=>Kl 1 43 (ji c)<|Kf 0<|f (c+1) (by exact⟨by(omega),by(simp only[aP]at *;omega),EQ hx1.2.2 hx1.1 (by(simp only[aP]at *;omega)) (hgv _ _ (by assumption)) rfl⟩)<|by(omega)) fun _ _=>Kp 0 xV<|Kf 0<|cJ<|rr0<|List.map aV<|jj []) fun c i j k hx1 _ l=>have hx1:=hx1;have:=hx1.1;have:=hx1.2.1;Kl 2 40 (ln bo e)<|Ka 0 (Int.ofNat c) (Int.ofNat e.length) (fun _ _=>Kl 2 46 (Fl c)<|Mx (bJ bo (by(simp only[aP,cK,kR]at *;omega):c-1<(e).length))<|Kp 4 (hasA<|gD e<|c-1)<|Kp 1 (hasB<|gD e<|c-1)<|Mp (hF (iP A<|gD e<|c-1)<|iP B<|gD e<|c-1)<|Mb (op (iP A<|gD e<|c-1)<|iP B<|gD e<|c-1) (fun _=>Kx 3 (bJ bo (by(simp only[aP,cK,kR]at *;omega):c<(e).length))<|K1 2 .app (ct (aK i) (by(rw[cK];first|exact f.1|exact hx1.2.2.1):j=(List.map aV k).length) (by(refine eO (m:=2^31) ?_ ?_ ?_<;>first|omega|(simp only[cK,cM,eZ,gT];omega)|(have z:=congrArg List.length f.2.2;rw[kB,eZ]at z;have z9:=hll _ hz20;have z2:=f.1;first|omega|(simp only[cM,gT];omega))|(have z:=hx1.2.2.2.1;have z2:=hx1.2.2.1;have z3:=hx1.2.1;first|omega|(simp only[cM,gT];omega))):small (j+1) 16=true))<|M1 (.obj 0<|aZ 2 true (i+1)<|List.map aV<|k++[PSpan.mk (gD e<|c-1)<|gD e c]) (congrArg (aZ 2 true<|i+1)<|cp (f:=aV) (l:=k) (ws:=[PSpan.mk (gD e<|c-1)<|gD e c]))<|Kl 2 43 (ji c)<|Kf 0<|l (c+1) (i+1) (j+1) (k++[PSpan.mk (gD e<|c-1)<|gD e c]) (by exact⟨by(omega),by(simp only[aP]at *;omega),by rw[eZ,←hx1.2.2.1];rfl,by(have z:=hx1.2.2.2.1;simp only[eZ,cM,gT];omega),by rw[hx1.2.2.2.2,D9 rfl hx1.1 (by(simp only[aP]at *;omega)) (hgv _ _ (by assumption)) rfl];simp⟩)<|by(omega)) fun _=>Kl 1 43 (ji c)<|Kf 0<|l (c+1) i j k (by exact⟨by(omega),by(simp only[aP]at *;omega),hx1.2.2.1,by(have z:=hx1.2.2.2.1;omega),by rw[hx1.2.2.2.2,EQ rfl hx1.1 (by(simp only[aP]at *;omega)) (hgv _ _ (by assumption)) rfl]⟩)<|by(omega)) fun _ _=>Mg 0<|M2 (.fsl 0 [] 66<|List.map aV k) True.intro (ct (aK i) (tA aV k j (by(omega):(k).length=j))<|aX W6 k)<|Ml 66 (fG (List.map aV k) false<|aX W6 k)<|Mp (jV k<|by(omega))<|Kf 0<|cJ<|rr0<|List.map aV<|jj k) (fun e _ _ _ f i _ j _ k _ l n=>have:=hll _ hz20;Kt 0 k<|Mx l<|Kl 11 33 (ji e)<|Mg 0<|M0 (.ren [1,0] [] [0,1,2,7,20,21,22])<|M1 (.frz 1 [0,1,2,7,20,21,22]) (et (aK true) True.intro)<|Mf<|j 0 2 [f.from_,f.to]<|by exact⟨rfl,by simp,by rw[n];rfl⟩) (fun _ _ e f i _ _ _ j k=>Kh 0 j<|Ke 0 (Jr i e f (by(omega)) (by(omega))<|by(have z:=congrArg List.length k.2.2;rw[kB,eZ]at z;have z9:=hll _ hz20;omega))<|Mj (List Int) [0,1,2,7] (OH F A B c) (OI F A B c) (fun j=>Ke 0 (BN (dR i) e f (by(rw[(lK _).length_eq];first|exact k.1|exact k.2.1|(have z:=congrArg List.length k.2.2;rw[kB,eZ]at z;have z9:=hll _ hz20;omega))) (by(rw[(lK _).length_eq];first|exact k.1|exact k.2.1|(have z:=congrArg List.length k.2.2;rw[kB,eZ]at z;have z9:=hll _ hz20;omega)))<|by(rw[(lK _).length_eq];first|exact k.1|exact k.2.1|(have z:=congrArg List.length k.2.2;rw[kB,eZ]at z;have z9:=hll _ hz20;omega)))<|M2 (.fsl 0 [0,1,2] 37<|List.map bo<|List.take (bb<|dR i).length<|bb (dR i)++List.replicate ((dR i).length -(bb<|dR i).length) 0) True.intro (ct (aK e) (Cd (f:=bo) (l:=bb (dR i)++List.replicate ((dR i).length -(bb<|dR i).length) 0) (n:=(bb<|dR i).length))<|aX YB<|List.take (bb<|dR i).length<|bb (dR i)++List.replicate ((dR i).length -(bb<|dR i).length) 0)<|Ml 37 (fG (List.map bo<|List.take (bb<|dR i).length<|bb (dR i)++List.replicate ((dR i).length -(bb<|dR i).length) 0) false<|aX YB<|List.take (bb<|dR i).length<|bb (dR i)++List.replicate ((dR i).length -(bb<|dR i).length) 0)<|Kf 0<|j (List.take (bb<|dR i).length<|bb (dR i)++List.replicate ((dR i).length -(bb<|dR i).length) 0) (by(unfold iF;rw[k.2.2];simp[pI]):List.take (bb (dR i)).length (bb (dR i)++List.replicate ((dR i).length -(bb (dR i)).length) (0:Int))=iF c)) fun e hz37=>have hz37:=hz37;have:=hz37▸hcl _ hz20;Mg 1<|Tp Nat Nat Nat (List PSpan) (1:Nat) [0,1,2,7,10,11] (fun c=>([aW<|A.map aV,aW<|B.map aV,bv (bw F) [] [],aW<|e.map bo,ab,nV c],[])) (fun c f i j=>([aW<|A.map aV,aW<|B.map aV,bv (bw F) [] [],aW<|e.map bo,aN 0 f 0 i none,nV c],[aZ 2 true f<|j.map aV])) (fun c=>(1:Nat)≤c∧c≤2^30∧kj g e=kj g (e.drop<|c-1)) (fun c _ f i=>(1:Nat)≤c∧c≤2^30∧f=i.length∧i.length<c∧kj g e=i++kj g (e.drop<|c-1)) (fun c=>2^31-c) (fun c _ _ _=>2^31-c) (by exact⟨an _,by omega,rfl⟩) (fun c hx1 f i=>have hx1:=hx1;have:=hx1.1;have:=hx1.2.1;Kl 2 40 (ln bo e)<|Ka 0 (Int.ofNat c) (Int.ofNat e.length) (fun _ _=>Kl 2 46 (Fl c)<|Mx (bJ bo (by(simp only[aP,cK,kR]at *;omega):c-1<(e).length))<|Kp 4 (hasA<|gD e<|c-1)<|Kp 1 (hasB<|gD e<|c-1)<|Mp (hF (iP A<|gD e<|c-1)<|iP B<|gD e<|c-1)<|Mb (op (iP A<|gD e<|c-1)<|iP B<|gD e<|c-1) (fun _=>Kx 3 (bJ bo (by(simp only[aP,cK,kR]at *;omega):c<(e).length))<|Kl 6 43 (ji c)<|Kf 0<|i (c+1) 0 1 [PSpan.mk (gD e<|c-1)<|gD e c] (by exact⟨by(omega),by(simp only[aP]at *;omega),rfl,by(simp only[cM,gT];omega),D9 hx1.2.2 hx1.1 (by(simp only[aP]at *;omega)) (hgv _ _ (by assumption)) rfl⟩)<|by(omega)) fun _=>Kl 1 43 (ji c)<|Kf 0<|f (c+1) (by exact⟨by(omega),by(simp only[aP]at *;omega),EQ hx1.2.2 hx1.1 (by(simp only[aP]at *;omega)) (hgv _ _ (by assumption)) rfl⟩)<|by(omega)) fun _ _=>Kp 0 xV<|Kf 0<|cJ<|rr0<|List.map aV<|jj []) fun c f i j hx1 _ l=>have hx1:=hx1;have:=hx1.1;have:=hx1.2.1;Kl 2 40 (ln bo e)<|Ka 0 (Int.ofNat c) (Int.ofNat e.length) (fun _ _=>Kl 2 46 (Fl c)<|Mx (bJ bo (by(simp only[aP,cK,kR]at *;omega):c-1<(e).length))<|Kp 4 (hasA<|gD e<|c-1)<|Kp 1 (hasB<|gD e<|c-1)<|Mp (hF (iP A<|gD e<|c-1)<|iP B<|gD e<|c-1)<|Mb (op (iP A<|gD e<|c-1)<|iP B<|gD e<|c-1) (fun _=>Kx 3 (bJ bo (by(simp only[aP,cK,kR]at *;omega):c<(e).length))<|K1 2 .app (ct (aK f) (by(rw[cK];first|exact k.1|exact hx1.2.2.1):i=(List.map aV j).length) (by(refine eO (m:=2^31) ?_ ?_ ?_<;>first|omega|(simp only[cK,cM,eZ,gT];omega)|(have z:=congrArg List.length k.2.2;rw[kB,eZ]at z;have z9:=hll _ hz20;have z2:=k.1;first|omega|(simp only[cM,gT];omega))|(have z:=hx1.2.2.2.1;have z2:=hx1.2.2.1;have z3:=hx1.2.1;first|omega|(simp only[cM,gT];omega))):small (i+1) 16=true))<|M1 (.obj 0<|aZ 2 true (f+1)<|List.map aV<|j++[PSpan.mk (gD e<|c-1)<|gD e c]) (congrArg (aZ 2 true<|f+1)<|cp (f:=aV) (l:=j) (ws:=[PSpan.mk (gD e<|c-1)<|gD e c]))<|Kl 2 43 (ji c)<|Kf 0<|l (c+1) (f+1) (i+1) (j++[PSpan.mk (gD e<|c-1)<|gD e c]) (by exact⟨by(omega),by(simp only[aP]at *;omega),by rw[eZ,←hx1.2.2.1];rfl,by(have z:=hx1.2.2.2.1;simp only[eZ,cM,gT];omega),by rw[hx1.2.2.2.2,D9 rfl hx1.1 (by(simp only[aP]at *;omega)) (hgv _ _ (by assumption)) rfl];simp⟩)<|by(omega)) fun _=>Kl 1 43 (ji c)<|Kf 0<|l (c+1) f i j (by exact⟨by(omega),by(simp only[aP]at *;omega),hx1.2.2.1,by(have z:=hx1.2.2.2.1;omega),by rw[hx1.2.2.2.2,EQ rfl hx1.1 (by(simp only[aP]at *;omega)) (hgv _ _ (by assumption)) rfl]⟩)<|by(omega)) fun _ _=>Mg 0<|M2 (.fsl 0 [] 66<|List.map aV j) True.intro (ct (aK f) (tA aV j i (by(omega):(j).length=i))<|aX W6 j)<|Ml 66 (fG (List.map aV j) false<|aX W6 j)<|Mp (jV j<|by(omega))<|Kf 0<|cJ<|rr0<|List.map aV<|jj j) fun e _ f i j _ _ k l _ n _ o _ p q=>have:=hll _ hz20;Kt 0 o<|Mx p<|K1 8 .app (ct (aK f) (by(rw[cK];first|exact q.1|exact hx1.2.2.1):i=(List.map bo j).length) (by(refine eO (m:=2^31) ?_ ?_ ?_<;>first|omega|(simp only[cK,cM,eZ,gT];omega)|(have z:=congrArg List.length q.2.2;rw[kB,eZ]at z;have z9:=hll _ hz20;have z2:=q.1;first|omega|(simp only[cM,gT];omega))|(have z:=hx1.2.2.2.1;have z2:=hx1.2.2.1;have z3:=hx1.2.1;first|omega|(simp only[cM,gT];omega))):small (i+2) 8=true))<|M1 (.obj 0<|aZ 1 true (f+1)<|List.map bo<|j++[k.from_,k.to]) (congrArg (aZ 1 true<|f+1)<|cp (f:=bo) (l:=j) (ws:=[k.from_,k.to]))<|Kl 1 33 (ji e)<|K1 0 (.frz 1 [0,1,2,7,20,21,22]) (et (tR 1 true (f+1) 1<|aX YB<|j++[k.from_,k.to]) True.intro)<|Mf<|n (f+1) (i+2) (j++[k.from_,k.to])<|by exact⟨by rw[eZ,←q.1];rfl,by simp,by rw[q.2.2,Dv];simp⟩
theorem XG(x y:Bool):kP 325 [.bool x,.bool y] (.bool (x||y)):=by
  have rr0 b' (h:(x||y)=b':=by simp only[aS,az,bS, *]):=h;exact bF Tryz.func325<|Kb 2 x (fun a=>MV a<|Ky 0<|rr0 true) fun a=>Kw 0 a<|Ky 0<|rr0 y
theorem Wf(x y:Bool):kP 326 [.bool x,.bool y] (.bool (x&&y)):=by
  have rr0 b' (h:(x&&y)=b':=by simp only[aS,az,bS, *]):=h;exact bF Tryz.func326<|Kb 2 x (fun a=>Ku 0 a<|Ky 0<|rr0 y) fun a=>My a<|Ky 0<|rr0 false
theorem Pg(a b:List PSpan)(ha:a.length<2^30)(hb:b.length<2^30):kP 278 [.ls (a.map aV),.ls (b.map aV)] (.ls ((sE (· || ·) a b).map aV)):=by
  have h:=MN 325 (· || ·) XG rfl a b ha hb
  exact bF Tryz.func278<|Kp 2 h<|Kf 0<|bu<|aW<|(sE (fun c d=>c||d) a b).map aV
theorem Re(a b:List PSpan)(ha:a.length<2^30)(hb:b.length<2^30):kP 281 [.ls (a.map aV),.ls (b.map aV)] (.ls ((sE (· && ·) a b).map aV)):=by
  have h:=MN 326 (· && ·) Wf rfl a b ha hb
  exact bF Tryz.func281<|Kp 2 h<|Kf 0<|bu<|aW<|(sE (fun c d=>c&&d) a b).map aV
noncomputable def pU(a:List PSpan)(d:Int):List PSpan:=sE (· && ·) a [⟨0,d⟩]
noncomputable def qv(a:List PSpan)(d:Int):List PSpan:=sE (· || ·) (pU a d) [⟨d,1048577⟩]
theorem sH(a:List PSpan)(d:Int):NrmS (pU a d):=zH _
theorem uP(a:List PSpan)(d:Int):NrmS (qv a d):=zH _
theorem FR(a:List PSpan)(d:Int)(ha:a.length<2^30):kP 216 [.ls (a.map aV),iV d] (.ls ((pU a d).map aV)):=by
  have h:kP 281 [.ls (a.map aV),.ps [aV ⟨0,d⟩] true] (.ls ((pU a d).map aV)):=(Re a [⟨0,d⟩] ha (by simp)).onArgs (.cons (Le.refl _) (.cons (Le.ps _ _ rfl) .nil))
  exact bF Tryz.func216<|Kp 4 h<|Kf 0<|bu<|aW<|(pU a d).map aV
theorem Sj(a:List PSpan)(d:Int)(ha:a.length<2^30):kP 214 [.ls (a.map aV),iV d] (.ls ((qv a d).map aV)):=by
  have h0:=FR a d ha
  have hl:=(sH a d).len
  have h:kP 278 [.ls ((pU a d).map aV),.ps [aV ⟨d,1048577⟩] true] (.ls ((qv a d).map aV)):=(Pg (pU a d) [⟨d,1048577⟩] (by omega) (by simp)).onArgs (.cons (Le.refl _) (.cons (Le.ps _ _ rfl) .nil))
  exact bF Tryz.func214<|Kp 2 h0<|Kp 2 h<|Kf 0<|bu<|aW<|(qv a d).map aV
noncomputable def sr(k:Int):Bool:=ak k 7||ak k 9
noncomputable def lj(k:Int):Bool:=sr k||ak k 8
noncomputable def sf(k:Int):AV:=match sr k with|true=>.func (.func 214) [] []|false=>match ak k 8 with|true=>.func (.func 216) [] []|false=>.nilf
theorem AK(k:Int):eM (some .nilf) true (bj false 1 [(0,1)] (iV k) [⟨iV 7,.func (.func 214) [] [],0⟩,⟨iV 9,.func (.func 214) [] [],1⟩,⟨iV 8,.func (.func 216) [] [],2⟩] 0)=some (.tuple [sf k,.bool (lj k)]):=by
  unfold sf lj sr
  simp only[bj,rq,JT,kT]
  cases h1:ak k 7<;>cases h2:ak k 9<;>cases h3:ak k 8<;>rfl
theorem Po{k:Int}(h:sr k=true):Le (.func (.func 214) [] []) (sf k):=by unfold sf;rw[h];exact Le.refl _
theorem TR{k:Int}(h:sr k=false)(h2:lj k=true):Le (.func (.func 216) [] []) (sf k):=by
  unfold lj at h2;rw[h,Bool.false_or]at h2
  unfold sf;rw[h,h2];exact Le.refl _
noncomputable def Pp:List AEnt:=[⟨iV 7,.func (.func 214) [] [],0⟩,⟨iV 9,.func (.func 214) [] [],1⟩,⟨iV 8,.func (.func 216) [] [],2⟩]
theorem TO(x:PItem):kD 119 [] (aa [.row 25 false 0 [eI x]]) (.map 1) (aa [.row 25 false 0 [eI x],.map Pp 3]):=by
  exact gg Tryz.func119 fun a=>Kf 6 a
theorem TP(s:PStart)(d o:PDeed):kD 119 [] (aa [.row 3 false 0 [aB s],.row 28 false 0 [aU d],.row 28 false 0 [aU o]]) (.map 3) (aa [.row 3 false 0 [aB s],.row 28 false 0 [aU d],.row 28 false 0 [aU o],.map Pp 3]):=by
  exact gg Tryz.func119 fun a=>Kf 6 a
noncomputable def rF(x:PItem)(a i:Int):Bool:=ak x.act a&&(match ak x.kind 11 with|true=>ak x.item i|false=>lj x.kind&&(ak x.item i||ak x.item (-1)))
theorem NC(x:PItem)(a i:Int):kP 120 [eI x,iV a,iV i] (.bool (rF x a i)):=by
  have hlk:=AK
  have rr0 b' (h:(rF x a i)=b':=by unfold rF;generalize ak x.act a=p1 at *;generalize ak x.kind 11=p2 at *;generalize ak x.item i=p3 at *;generalize ak x.item (-1)=p4 at *;generalize lj x.kind=p5 at *;simp only[aS,az,bS, *]):=h;let q:=[aw [iV x.kind,aW (x.at_.map ax),aW (x.to.map ax),iV x.where_,iV x.nth_,iV x.unit.act,iV x.unit.item,iV x.unit.n,iV x.unit.kind,aj x.unit.label,aW (x.unit.head.map aQ),aW (x.unit.words.map aQ),aW (x.unit.kids.map aY),aW (x.old.map nr),aW (x.new.map nr),aj x.label,aj x.for_,iV x.start.kind,iV x.start.day,aj x.start.event,iV x.act,iV x.item,iV x.day,aj x.event,aW (x.by_.map Ot)]];let q1:=bv (bw 214) [] [];exact bF Tryz.func120<|Kc 5 x.act a (fun _ _=>Ky 0<|rr0 false) fun _ _=>Kj 2 x.kind 11 (fun _ _=>Kf 4<|bT<|rr0<|ak x.item i) fun _ _=>M3 (.efx true (AV.map 1)<|aa [aZ 25 false 0 q,AObj.map [AEnt.mk (iV 7) q1 0,AEnt.mk (iV 9) q1 1,AEnt.mk (iV 8) (bv (bw 216) [] []) 2] 3]) (et rt ti) (et (aK<|some<|aZ 25 false 0 q) ti) (TO x)<|K1 1 (.look<|cn [sf x.kind,fK<|lj x.kind]) (hlk x.kind)<|Kb 6 (lj x.kind) (fun b=>Kt 0 b<|Kt 0 b<|Kt 0 b<|Kt 0 b<|Kj 0 x.item i (fun c _=>Mt c<|Mt c<|Mt b<|MV c<|MV b<|Ky 0<|rr0 true) fun c _=>Kh 0 c<|Kh 0 c<|Kt 0 b<|My c<|MV b<|Kf 0<|bT<|rr0<|ak x.item (-1)) fun b=>Mh b<|Mh b<|Mh b<|Mh b<|Mh b<|My b<|Ky 0<|rr0 false
noncomputable abbrev iZ(nm:aE):AObj:=.row 1 false 0 [.str nm]
noncomputable def sC(nm:aE)(d:PDeed):Bool:=ak d.it.kind 10&&dL d.it.event nm
theorem Sw(nm:aE)(d:PDeed):kD 280 [aU d,.ptr 0 0 0 0] (aa [iZ nm]) (.bool (sC nm d)) (aa [iZ nm]):=by
  let q:=aa [aZ 1 false 0 [aj nm]];exact TC Tryz.func280<|Kj 6 d.it.kind 10 (fun a _=>Kt 0 a<|Kt 0 a<|Kt 0 a<|Kt 0 a<|Ku 0 a<|K1 0 (.frz 1 [3]) (et rt ti)<|Mf<|et (by unfold sC;generalize ak d.it.kind 10=p1 at *;generalize dL d.it.event nm=p2 at *;simp only[aS,az,bS, *]:(AV.bool (dL d.it.event nm))=(AV.bool (sC nm d)))<|aK q) fun a _=>Mh a<|Mh a<|Mh a<|Mh a<|My a<|K1 0 (.frz 1 [3]) (et rt ti)<|Mf<|et (by unfold sC;generalize ak d.it.kind 10=p1 at *;generalize dL d.it.event nm=p2 at *;simp only[aS,az,bS, *]:(AV.bool false)=(AV.bool (sC nm d)))<|aK q
noncomputable def je(nm:aE):List PDeed→Nat→Int
  |[],_=> -1
  |d::r,i=>match sC nm d with|true=>Int.ofNat i|false=>je nm r (i+1)
theorem L2(nm:aE):∀(l:List PDeed)(i:Nat),je nm l i<Int.ofNat (i+l.length)∧(0≤je nm l i∨je nm l i= -1)
  |[],i=>⟨by simp only[je,oN];omega,.inr rfl⟩
  | d::r,i=>by
    have:=L2 nm r (i+1)
    cases h:sC nm d<;>simp only[je,h,oN,lC]at * <;>omega
theorem Z8{nm:aE}{d:PDeed}{r:List PDeed}{i:Nat}(h:sC nm d=true):je nm (d::r) i=Int.ofNat i:=by simp only[je,h]
theorem Z9{nm:aE}{d:PDeed}{r:List PDeed}{i:Nat}(h:sC nm d=false):je nm (d::r) i=je nm r (i+1):=by simp only[je,h]
theorem C9(nm:aE)(l:List PDeed)(hl:l.length<2^40):kD 279 [.ls (l.map aU),.func (.func 280) [] [.ptr 0 0 0 0]] (aa [iZ nm]) (iV (je nm l 0)) (aa [iZ nm]):=by
  let q:=aa [aZ 1 false 0 [aj nm]];exact TC Tryz.func279<|Kl 2 7 (ln aU l)<|Mg 0<|wg aU l [0,1,7,8] (fun a _=>([aW<|l.map aU,bv (bw 280) [] [bK 0 0 0 0],nV l.length,nV a],[aZ 1 false 0 [aj nm]])) (fun a=>je nm l (0:Nat)=je nm a (l.length-a.length)) (by(rw[Nat.sub_self])) (fun _ _ _ _ _ a b=>Kh 0 a<|Kf 0<|et (by(rw[b];rfl):(iV (-1))=(iV (je nm l 0)))<|aK q) fun a _ b _ c d e f g _ h i=>have:=gC b f;Kt 0 g<|Kx 4 h<|Ke 0 (Sw nm c)<|Mb (sC nm c) (fun _=>Kf 1<|et (by(rw[i,Z8 (by assumption)];congr 2;have z:=I9 (b.trans f) (by simp) (by simp only[lC];omega:(l.length-(d.length+1))+(c::d).length=l.length);exact z):(nV a)=(iV (je nm l 0)))<|aK q) fun _=>Kl 0 18 (dm a)<|Kf 0<|e<|by(rw[i,Z9 (by assumption)];congr 1;have:=gC b f;simp only[lC];omega)
theorem Sk(d:Int):kP 214 [.nils,iV d] (.ls ((qv [] d).map aV)):=(Sj [] d (by simp)).onArgs (.cons Le.nils (.cons (Le.refl _) .nil))
theorem JR(nm:aE)(l:List PDeed)(hl:l.length<2^40)(h:ao (je nm l 0) 0=true):kP 215 [.str nm,.ls (l.map aU)] (.tuple [iV 0,.bool false]):=by
  exact bF Tryz.func215<|Ke 4 (C9 nm l hl)<|Kt 2 h<|Kf 1<|bu<|cn [iV 0,fK false]
theorem JS(nm:aE)(l:List PDeed)(hl:l.length<2^40)(h:ao (je nm l 0) 0=false):kP 215 [.str nm,.ls (l.map aU)] (.tuple [iV (gD l (je nm l 0).toNat).it.day,.bool true]):=by
  have g1:=af h
  have g2:=(L2 nm l 0).1
  exact bF Tryz.func215<|Ke 4 (C9 nm l hl)<|Kh 2 h<|Kl 1 13 (Bi (x:=je nm l 0) oA)<|Mx (bJ aU (by(simp only[oN,lM,lS]at *;omega):(je nm l 0).toNat<(l).length))<|Kf 4<|bu<|cn [iV (gD l (je nm l 0).toNat).it.day,fK true]
noncomputable def lL(s:PStart)(l:List PDeed):List PSpan:=match ak s.kind 1 with|true=>qv [] s.day|false=>match ak s.kind 3 with|true=>(match ao (je s.event l 0) 0 with|true=>[]|false=>qv [] (gD l (je s.event l 0).toNat).it.day)|false=>[]
theorem OU(s:PStart)(l:List PDeed)(hl:l.length<2^40)(hi:ao (je s.event l 0) 0=true):kP 117 [aB s,.ls (l.map aU)] (.ls ((lL s l).map aV)):=by
  have he:=JR s.event l hl hi
  have e:lL s l=match ak s.kind 1 with|true=>qv [] s.day|false=>[]:=(by unfold lL;rw[hi];cases ak s.kind 1<;>cases ak s.kind 3<;>rfl)
  rw[e]
  have rr0 b' (h:((match ak s.kind 1 with|true=>qv [] s.day|false=>[]).map aV)=b':=by generalize ak s.kind 1=p1 at *;(rw[h0]);try rfl):=h;exact bF Tryz.func117<|Kj 5 s.kind 1 (fun h0 _=>Kp 1 (Sk s.day)<|Kf 0<|cJ<|rr0<|(qv [] s.day).map aV) fun h0 _=>Kj 1 s.kind 3 (fun _ _=>Kp 2 he<|Kf 7 (Le.lsn<|rr0 []:Le _ (ab))) fun _ _=>Kf 0 (Le.lsn<|rr0 []:Le _ (ab))
theorem Oq(s:PStart)(l:List PDeed)(hl:l.length<2^40)(hi:ao (je s.event l 0) 0=false):kP 117 [aB s,.ls (l.map aU)] (.ls ((lL s l).map aV)):=by
  have he:=JS s.event l hl hi
  have e:lL s l=match ak s.kind 1 with|true=>qv [] s.day|false=>match ak s.kind 3 with|true=>qv [] (gD l (je s.event l 0).toNat).it.day |false=>[]:=(by unfold lL;rw[hi])
  rw[e]
  have rr0 b' (h:((match ak s.kind 1 with|true=>qv [] s.day|false=>match ak s.kind 3 with|true=>qv [] (gD l (je s.event l 0).toNat).it.day |false=>[]).map aV)=b':=by generalize ak s.kind 1=p1 at *;generalize ak s.kind 3=p3 at *;(rw[h0]);(first|rw[h1]|skip);try rfl):=h;exact bF Tryz.func117<|Kj 5 s.kind 1 (fun h0 _=>Kp 1 (Sk s.day)<|Kf 0<|cJ<|rr0<|(qv [] s.day).map aV) fun h0 _=>Kj 1 s.kind 3 (fun h1 _=>Kp 2 he<|Kp 7 (Sk (gD l (je s.event l 0).toNat).it.day)<|Kf 0<|cJ<|rr0<|(qv [] (gD l (je s.event l 0).toNat).it.day).map aV) fun h1 _=>Kf 0 (Le.lsn<|rr0 []:Le _ (ab))
theorem Jt(s:PStart)(l:List PDeed)(hl:l.length<2^40):kP 117 [aB s,.ls (l.map aU)] (.ls ((lL s l).map aV)):=by
  cases hi:ao (je s.event l 0) 0
  · exact Oq s l hl hi
  · exact OU s l hl hi
noncomputable def sN(d o:PDeed)(days:List PSpan):List PSpan:=match lj o.it.kind&&rF o.it d.act d.item with|true=>(match sr o.it.kind with|true=>qv days o.it.day|false=>pU days o.it.day)|false=>days
noncomputable def my(d:PDeed):List PDeed→List PSpan→List PSpan
  |[],days=>days
  |o::r,days=>my d r (sN d o days)
noncomputable def dD(s:PStart)(d:PDeed)(l:List PDeed):List PSpan:=match ao d.it.kind 0||ao 6 d.it.kind with|true=>[]|false=>my d l (lL (effS s d.it.start) l)
theorem Oz(s:PStart)(l:List PDeed):(lL s l).length≤1048577:=by
  have h:=fun d=>(uP [] d).len
  unfold lL
  cases ak s.kind 1<;>cases ak s.kind 3<;>cases ao (je s.event l 0) 0<;>simp only[lN]<;>first|exact h _|omega
theorem nc(s:PStart)(d:PDeed)(l:List PDeed)(hl:l.length<2^40):kP 66 [aB s,aU d,.ls (l.map aU)] (.ls ((dD s d l).map aV)):=by
  have hlk:=AK
  have hle1:∀k,sr k=true→Le (.func (.func 214) [] []) (sf k):=fun k h=>Po h
  have hle2:∀k,sr k=false→lj k=true→Le (.func (.func 216) [] []) (sf k):=fun k h h2=>TR h h2
  have hil:=Oz (effS s d.it.start) l
  have hin:∀b,(ao d.it.kind 0||ao 6 d.it.kind)=b→dD s d l=match b with|true=>[]|false=>my d l (lL (effS s d.it.start) l):=fun b h=>by unfold dD;rw[h]
  have hst:∀(o:PDeed)(r:List PDeed)(days:List PSpan),my d (o::r) days=my d r (sN d o days):=fun o r days=>rfl
  have rr0 b' (h:((dD s d l).map aV)=b':=by first|(rw[hin true (by simp only[aS,az,bS, *];try rfl)];rfl)|(rw[hin false (by simp only[aS,az,bS, *];try rfl)];first|exact congrArg _ hj0.2|exact congrArg _ hj0.2.symm|(rw[hj0.2];rfl))):=h;let q1:=[aw [iV d.act,iV d.item,iV d.day,iV d.it.kind,aW (d.it.at_.map ax),aW (d.it.to.map ax),iV d.it.where_,iV d.it.nth_,iV d.it.unit.act,iV d.it.unit.item,iV d.it.unit.n,iV d.it.unit.kind,aj d.it.unit.label,aW (d.it.unit.head.map aQ),aW (d.it.unit.words.map aQ),aW (d.it.unit.kids.map aY),aW (d.it.old.map nr),aW (d.it.new.map nr),aj d.it.label,aj d.it.for_,iV d.it.start.kind,iV d.it.start.day,aj d.it.start.event,iV d.it.act,iV d.it.item,iV d.it.day,aj d.it.event,aW (d.it.by_.map Ot)]];let q2:=[aw [iV s.kind,iV s.day,aj s.event]];let q3:=bv (bw 214) [] [];exact bF Tryz.func66<|Ka 7 d.it.kind 0 (fun a _=>Mt a<|Mt a<|Mt a<|MV a<|Kf 1 (Le.lsn<|rr0 []:Le _ (ab))) fun a _=>Kh 0 a<|Kh 0 a<|Kh 0 a<|Kw 0 a<|Mb (ao 6 d.it.kind) (fun a=>have:=ae a;Kf 0 (Le.lsn<|rr0 []:Le _ (ab))) fun a=>have:=af a;Kp 3 (HP s d.it.start)<|Kp 0 (Jt (effS s d.it.start) l hl)<|Kl 2 30 (ln aU l)<|Mg 0<|XV (0:Nat) l (lL (effS s d.it.start) l) [4,7,29,30,31] (fun a _ c=>([bK 1 0 0 0,aW<|c.map aV,aW<|l.map aU,nV l.length,nV a],[aZ 3 false 0 [aw [iV s.kind,iV s.day,aj s.event]],aZ 28 false 0 [aw [iV d.act,iV d.item,iV d.day,iV d.it.kind,aW<|d.it.at_.map ax,aW<|d.it.to.map ax,iV d.it.where_,iV d.it.nth_,iV d.it.unit.act,iV d.it.unit.item,iV d.it.unit.n,iV d.it.unit.kind,aj d.it.unit.label,aW<|d.it.unit.head.map aQ,aW<|d.it.unit.words.map aQ,aW<|d.it.unit.kids.map aY,aW<|d.it.old.map nr,aW<|d.it.new.map nr,aj d.it.label,aj d.it.for_,iV d.it.start.kind,iV d.it.start.day,aj d.it.start.event,iV d.it.act,iV d.it.item,iV d.it.day,aj d.it.event,aW<|d.it.by_.map Ot]]])) (fun a c e=>(l).drop a=c∧e.length≤1048577∧my d l (lL (effS s d.it.start) l)=my d c e) (fun _ a _=>a.length) (et rfl<|by(exact⟨hil,rfl⟩)) fun a c e f g=>Mc c (fun a=>have c:=fg f.1 a;have hj0:=iX (J:=fun a c=>c.length≤1048577∧my d l (lL (effS s d.it.start) l)=my d a c) (a:=e) a f.2;Kh 0 c<|Kf 1<|cJ<|rr0<|e.map aV) fun c i j=>let m:=[aw [iV c.act,iV c.item,iV c.day,iV c.it.kind,aW<|c.it.at_.map ax,aW<|c.it.to.map ax,iV c.it.where_,iV c.it.nth_,iV c.it.unit.act,iV c.it.unit.item,iV c.it.unit.n,iV c.it.unit.kind,aj c.it.unit.label,aW<|c.it.unit.head.map aQ,aW<|c.it.unit.words.map aQ,aW<|c.it.unit.kids.map aY,aW<|c.it.old.map nr,aW<|c.it.new.map nr,aj c.it.label,aj c.it.for_,iV c.it.start.kind,iV c.it.start.day,aj c.it.start.event,iV c.it.act,iV c.it.item,iV c.it.day,aj c.it.event,aW<|c.it.by_.map Ot]];have n:=fR f.1 j;have:=ae n;have p:=fe (enc:=aU) f.1 j;have hj0:=cX (J:=fun a c=>c.length≤1048577∧my d l (lL (effS s d.it.start) l)=my d a c) (a:=e) j f.2;Kt 0 n<|Mx p<|Mg 2<|M3 (.efx true (AV.map 3)<|aa [aZ 3 false 0 q2,aZ 28 false 0 q1,aZ 28 false 0 m,AObj.map [AEnt.mk (iV 7) q3 0,AEnt.mk (iV 9) q3 1,AEnt.mk (iV 8) (bv (bw 216) [] []) 2] 3]) (kL rt rt rt ti) (kL (aK<|some<|aZ 28 false 0 m) (aK<|some<|aZ 28 false 0 q1) (aK<|some<|aZ 3 false 0 q2) ti) (TP s d c)<|K1 2 (.look<|cn [sf c.it.kind,fK<|lj c.it.kind]) (hlk c.it.kind)<|Kb 6 (lj c.it.kind) (fun m=>Kt 0 m<|Kt 0 m<|Kt 0 m<|Kt 0 m<|Kt 0 m<|Kt 0 m<|Mp (NC c.it d.act d.item)<|MV m<|Mb (rF c.it d.act d.item) (fun _=>Ks 4 (sr c.it.kind) (fun m=>Ml 53 (hle1 c.it.kind m)<|Mp (Sj e c.it.day oA)<|Kl 1 59 (dm a)<|K1 0 (.frz 2 [4,7,29,30,31]) (ct rt rt ti)<|Mf<|g (a+1) i (qv e c.it.day) (et (bh f.1 j)<|by exact⟨(uP _ _).len,by rw[hj0.2,hst];simp only[sN, *];rfl⟩)<|eA j) fun n=>Ml 53 (hle2 c.it.kind n m)<|Mp (FR e c.it.day oA)<|Kl 1 59 (dm a)<|K1 0 (.frz 2 [4,7,29,30,31]) (ct rt rt ti)<|Mf<|g (a+1) i (pU e c.it.day) (et (bh f.1 j)<|by exact⟨(sH _ _).len,by rw[hj0.2,hst];simp only[sN, *];rfl⟩)<|eA j) fun _=>Kl 0 59 (dm a)<|K1 0 (.frz 2 [4,7,29,30,31]) (ct rt rt ti)<|Mf<|g (a+1) i e (et (bh f.1 j)<|by exact⟨hj0.1,by rw[hj0.2,hst];simp only[sN,aS,az,bS, *];try rfl⟩)<|eA j) fun c=>Mh c<|Mh c<|Mh c<|Mh c<|Mh c<|Mh c<|My c<|Kl 1 59 (dm a)<|K1 0 (.frz 2 [4,7,29,30,31]) (ct rt rt ti)<|Mf<|g (a+1) i e (et (bh f.1 j)<|by exact⟨hj0.1,by rw[hj0.2,hst];simp only[sN,aS,az,bS, *];try rfl⟩)<|eA j
noncomputable abbrev i9(d:Int):AObj:=.row 1 false 0 [iV d]
noncomputable abbrev rK:AObj:=.row 1 false 0 [.nils]
noncomputable abbrev qa(i ep n:Nat):AObj:=.row 1 false 0 [.slice i ep 0 n none]
noncomputable abbrev dh(m:List (Int×PStart)):AObj:=.map (b9 aB m 0) m.length
noncomputable abbrev hJ(d:PDeed):AObj:=.row 28 false 0 [aU d]
noncomputable abbrev qw(ep:Nat)(l:List PDeed):AObj:=.row 28 true ep (l.map aU)
def dP:PStart:=⟨0,0,[]⟩
def dx(m:List (Int×PStart))(k:Int):PStart:=(gS k m).getD dP
theorem AY(m:List (Int×PStart))(k:Int):eM (some (.agg [iV 0,iV 0,.str []])) false (bj false 1 [(0,1)] (iV k) (b9 aB m 0) 0)=some (aB (dx m k)):=by
  rw[Az]
  cases h:gS k m<;>simp only[dx,h,Option.getD]<;>rfl
theorem Ck(m:List (Int×PStart))(a:PAct):qC (b9 aB m 0) m.length (iV a.number) (.agg [iV a.start.kind,iV a.start.day,.str a.start.event]) (bj false 1 [(0,1)] (iV a.number) (b9 aB m 0) 0)=some (b9 aB (lV a.number a.start m) 0,(lV a.number a.start m).length):=Cw (f:=aB) a.number a.start m
/-- The starts of the acts by their numbers. -/
def yz(l:List PAct)(m:List (Int×PStart)):List (Int×PStart):=l.foldl (fun m a=>lV a.number a.start m) m
theorem HW(s:PStart)(d:PDeed)(l:List PDeed):NrmS (dD s d l):=by
  have h1:∀(s:PStart),NrmS (lL s l):=fun s=>by
    unfold lL
    cases ak s.kind 1<;>cases ak s.kind 3<;>cases ao (je s.event l 0) 0<;>first|exact yb|exact uP _ _
  have h2:∀(r:List PDeed)(days:List PSpan),NrmS days→NrmS (my d r days):=by
    intro r
    induction r with
    |nil=>intro days h;exact h
    | cons o r ih=>
      intro days h
      refine ih _ ?_
      unfold sN
      cases lj o.it.kind&&rF o.it d.act d.item<;>cases sr o.it.kind<;>first|exact h|exact uP _ _|exact sH _ _
  unfold dD
  cases ao d.it.kind 0||ao 6 d.it.kind
  · exact h2 l _ (h1 _)
  · exact yb
theorem md(s:PStart)(d:PDeed)(l:List PDeed)(day:Int):kP 41 [.ls ((dD s d l).map aV),iV day] (.bool (iP (dD s d l) day)):=by
  have hn:=HW s d l
  have h:=H9 (dD s d l) day (qQ hn.len (by decide))
  rwa[show jj (dD s d l)=dD s d l from(UG hn).symm]at h
/-- Whether an amendment is told: its purpose, its days. -/
noncomputable def Yd(p:aE)(d:PDeed):Bool:=dL d.it.for_ []||dL d.it.for_ p
noncomputable def CE(day:Int)(p:aE)(m:List (Int×PStart))(ds:List PDeed)(d:PDeed):Bool:=Yd p d&&iP (dD (dx m d.act) d ds) day
noncomputable def sn(day:Int)(p:aE)(m:List (Int×PStart))(ds l:List PDeed):List PDeed:=l.filter fun d=>gU d.it.kind&&CE day p m ds d
theorem aaZ(d:PDeed)(ss:List PSpan)(day:Int)(p:aE)(m:List (Int×PStart))(hc:kP 41 [.ls (ss.map aV),iV day] (.bool false)):kD 40 [aU d,.ls (ss.map aV),.ptr 1 0 0 0,.ptr 0 0 0 0,.ptr 2 0 0 0] (aa [i9 day,iZ p,rK,dh m,hJ d]) (.tuple []) (aa [i9 day,iZ p,rK,dh m,hJ d]):=by
  exact gg Tryz.func40 fun a=>Kb 5 (dL d.it.for_ (ByteArray.mk #[]).data.toList) (fun b=>Mt b<|Mt b<|Mt b<|Mt b<|MV b<|Kp 2 hc<|K1 1 (.frz 5 []) (yo rt (tM m.length 5<|aH (f:=aB) (fun _=>rfl) m 0) rt rt rt ti)<|Mf a) fun b=>Kh 0 b<|Kh 0 b<|Kh 0 b<|Kh 0 b<|Kw 0 b<|Kb 0 (dL d.it.for_ p) (fun b=>Kt 0 b<|Kt 0 b<|Mp hc<|MV b<|K1 0 (.frz 5 []) (yo rt (tM m.length 5<|aH (f:=aB) (fun _=>rfl) m 0) rt rt rt ti)<|Mf a) fun b=>Mh b<|Mh b<|My b<|K1 0 (.frz 5 []) (yo rt (tM m.length 5<|aH (f:=aB) (fun _=>rfl) m 0) rt rt rt ti)<|Mf a
theorem aaY(d:PDeed)(ss:List PSpan)(day:Int)(p:aE)(m:List (Int×PStart))(h1:dL d.it.for_ []=false)(h2:dL d.it.for_ p=false):kD 40 [aU d,.ls (ss.map aV),.ptr 1 0 0 0,.ptr 0 0 0 0,.ptr 2 0 0 0] (aa [i9 day,iZ p,rK,dh m,hJ d]) (.tuple []) (aa [i9 day,iZ p,rK,dh m,hJ d]):=by
  exact gg Tryz.func40 fun a=>Kh 5 h1<|Kh 0 h1<|Kh 0 h1<|Kh 0 h1<|Kh 0 h1<|Kw 0 h1<|Kh 0 h2<|Mh h2<|Mh h2<|My h2<|K1 0 (.frz 5 []) (yo rt (tM m.length 5<|aH (f:=aB) (fun _=>rfl) m 0) rt rt rt ti)<|Mf a
theorem aaX(d:PDeed)(ss:List PSpan)(day:Int)(p:aE)(m:List (Int×PStart))(hc:kP 41 [.ls (ss.map aV),iV day] (.bool true))(h1:dL d.it.for_ []=true):kD 40 [aU d,.ls (ss.map aV),.ptr 1 0 0 0,.ptr 0 0 0 0,.ptr 2 0 0 0] (aa [i9 day,iZ p,rK,dh m,hJ d]) (.tuple []) (aa [i9 day,iZ p,qa 5 0 1,dh m,hJ d,qw 0 [d]]):=by
  exact gg Tryz.func40 fun a=>Kt 5 h1<|Mt h1<|Mt h1<|Mt h1<|Mt h1<|MV h1<|Kp 2 hc<|K1 6 (.ren [0,1,2,3,4,6,5] [3] []) (tN m.length<|aH (f:=aB) (fun _=>rfl) m 0)<|M1 (.frz 6 []) (Oi rt rt (tM m.length 6<|aH (f:=aB) (fun _=>rfl) m 0) rt rt rt ti)<|Mf a
theorem aaW(d:PDeed)(ss:List PSpan)(day:Int)(p:aE)(m:List (Int×PStart))(hc:kP 41 [.ls (ss.map aV),iV day] (.bool true))(h1:dL d.it.for_ []=false)(h2:dL d.it.for_ p=true):kD 40 [aU d,.ls (ss.map aV),.ptr 1 0 0 0,.ptr 0 0 0 0,.ptr 2 0 0 0] (aa [i9 day,iZ p,rK,dh m,hJ d]) (.tuple []) (aa [i9 day,iZ p,qa 5 0 1,dh m,hJ d,qw 0 [d]]):=by
  exact gg Tryz.func40 fun a=>Kh 5 h1<|Kh 0 h1<|Kh 0 h1<|Kh 0 h1<|Kh 0 h1<|Kw 0 h1<|Kt 0 h2<|Kt 0 h2<|Kt 0 h2<|Mp hc<|MV h2<|K1 5 (.ren [0,1,2,3,4,6,5] [3] []) (tN m.length<|aH (f:=aB) (fun _=>rfl) m 0)<|M1 (.frz 6 []) (Oi rt rt (tM m.length 6<|aH (f:=aB) (fun _=>rfl) m 0) rt rt rt ti)<|Mf a
theorem aaV(d:PDeed)(ss:List PSpan)(day:Int)(p:aE)(m:List (Int×PStart))(ep n:Nat)(out:List PDeed)(hc:kP 41 [.ls (ss.map aV),iV day] (.bool false)):kD 40 [aU d,.ls (ss.map aV),.ptr 1 0 0 0,.ptr 0 0 0 0,.ptr 2 0 0 0] (aa [i9 day,iZ p,qa 4 ep n,dh m,qw ep out,hJ d]) (.tuple []) (aa [i9 day,iZ p,qa 4 ep n,dh m,qw ep out,hJ d]):=by
  exact gg Tryz.func40 fun a=>Kb 5 (dL d.it.for_ (ByteArray.mk #[]).data.toList) (fun b=>Mt b<|Mt b<|Mt b<|Mt b<|MV b<|Kp 2 hc<|K1 1 (.frz 6 []) (Oi rt (tR 28 true ep 6<|aX xn out) (tM m.length 6<|aH (f:=aB) (fun _=>rfl) m 0) rt rt rt ti)<|Mf a) fun b=>Kh 0 b<|Kh 0 b<|Kh 0 b<|Kh 0 b<|Kw 0 b<|Kb 0 (dL d.it.for_ p) (fun b=>Kt 0 b<|Kt 0 b<|Mp hc<|MV b<|K1 0 (.frz 6 []) (Oi rt (tR 28 true ep 6<|aX xn out) (tM m.length 6<|aH (f:=aB) (fun _=>rfl) m 0) rt rt rt ti)<|Mf a) fun b=>Mh b<|Mh b<|My b<|K1 0 (.frz 6 []) (Oi rt (tR 28 true ep 6<|aX xn out) (tM m.length 6<|aH (f:=aB) (fun _=>rfl) m 0) rt rt rt ti)<|Mf a
theorem aaU(d:PDeed)(ss:List PSpan)(day:Int)(p:aE)(m:List (Int×PStart))(ep n:Nat)(out:List PDeed)(h1:dL d.it.for_ []=false)(h2:dL d.it.for_ p=false):kD 40 [aU d,.ls (ss.map aV),.ptr 1 0 0 0,.ptr 0 0 0 0,.ptr 2 0 0 0] (aa [i9 day,iZ p,qa 4 ep n,dh m,qw ep out,hJ d]) (.tuple []) (aa [i9 day,iZ p,qa 4 ep n,dh m,qw ep out,hJ d]):=by
  exact gg Tryz.func40 fun a=>Kh 5 h1<|Kh 0 h1<|Kh 0 h1<|Kh 0 h1<|Kh 0 h1<|Kw 0 h1<|Kh 0 h2<|Mh h2<|Mh h2<|My h2<|K1 0 (.frz 6 []) (Oi rt (tR 28 true ep 6<|aX xn out) (tM m.length 6<|aH (f:=aB) (fun _=>rfl) m 0) rt rt rt ti)<|Mf a
theorem aaT(d:PDeed)(ss:List PSpan)(day:Int)(p:aE)(m:List (Int×PStart))(ep n:Nat)(out:List PDeed)(hn:n=out.length)(hn2:n<2^20)(hc:kP 41 [.ls (ss.map aV),iV day] (.bool true))(h1:dL d.it.for_ []=true):kD 40 [aU d,.ls (ss.map aV),.ptr 1 0 0 0,.ptr 0 0 0 0,.ptr 2 0 0 0] (aa [i9 day,iZ p,qa 4 ep n,dh m,qw ep out,hJ d]) (.tuple []) (aa [i9 day,iZ p,qa 4 (ep+1) (n+1),dh m,qw (ep+1) (out++[d]),hJ d]):=by
  exact gg Tryz.func40 fun a=>Kt 5 h1<|Mt h1<|Mt h1<|Mt h1<|Mt h1<|MV h1<|Kp 2 hc<|K1 4 .app (ct (aK ep) (by(rw[lM];exact hn):n=(out.map aU).length) (by exact eO (m:=2^21) (by omega) (by decide) (by decide):small (n+1) 392=true))<|M1 (.obj 4<|aZ 28 true (ep+1)<|(out++[d]).map aU) (congrArg (aZ 28 true<|ep+1)<|cp (f:=aU) (l:=out) (ws:=[d]))<|K1 0 (.frz 6 []) (Oi rt (tR 28 true (ep+1) 6<|aX xn<|out++[d]) (tM m.length 6<|aH (f:=aB) (fun _=>rfl) m 0) rt rt rt ti)<|Mf a
theorem aaS(d:PDeed)(ss:List PSpan)(day:Int)(p:aE)(m:List (Int×PStart))(ep n:Nat)(out:List PDeed)(hn:n=out.length)(hn2:n<2^20)(hc:kP 41 [.ls (ss.map aV),iV day] (.bool true))(h1:dL d.it.for_ []=false)(h2:dL d.it.for_ p=true):kD 40 [aU d,.ls (ss.map aV),.ptr 1 0 0 0,.ptr 0 0 0 0,.ptr 2 0 0 0] (aa [i9 day,iZ p,qa 4 ep n,dh m,qw ep out,hJ d]) (.tuple []) (aa [i9 day,iZ p,qa 4 (ep+1) (n+1),dh m,qw (ep+1) (out++[d]),hJ d]):=by
  exact gg Tryz.func40 fun a=>Kh 5 h1<|Kh 0 h1<|Kh 0 h1<|Kh 0 h1<|Kh 0 h1<|Kw 0 h1<|Kt 0 h2<|Kt 0 h2<|Kt 0 h2<|Mp hc<|MV h2<|K1 3 .app (ct (aK ep) (by(rw[lM];exact hn):n=(out.map aU).length) (by exact eO (m:=2^21) (by omega) (by decide) (by decide):small (n+1) 392=true))<|M1 (.obj 4<|aZ 28 true (ep+1)<|(out++[d]).map aU) (congrArg (aZ 28 true<|ep+1)<|cp (f:=aU) (l:=out) (ws:=[d]))<|K1 0 (.frz 6 []) (Oi rt (tR 28 true (ep+1) 6<|aX xn<|out++[d]) (tM m.length 6<|aH (f:=aB) (fun _=>rfl) m 0) rt rt rt ti)<|Mf a
theorem WG{day:Int}{p:aE}{m:List (Int×PStart)}{ds:List PDeed}{d:PDeed}(h:CE day p m ds d=false):kP 41 [.ls ((dD (dx m d.act) d ds).map aV),iV day] (.bool false)∨(dL d.it.for_ []=false∧dL d.it.for_ p=false):=by
  unfold CE Yd at h
  have hz:=md (dx m d.act) d ds day
  cases q:iP (dD (dx m d.act) d ds) day with
  |false=>rw[q]at hz;exact .inl hz
  |true=>rw[q,Bool.and_true,wC]at h;exact .inr h
theorem Qm{day:Int}{p:aE}{m:List (Int×PStart)}{ds:List PDeed}{d:PDeed}(h:CE day p m ds d=true):kP 41 [.ls ((dD (dx m d.act) d ds).map aV),iV day] (.bool true)∧(dL d.it.for_ []=true∨(dL d.it.for_ []=false∧dL d.it.for_ p=true)):=by
  unfold CE Yd at h
  obtain⟨h1,h2⟩:=ql.1 h
  have hz:=md (dx m d.act) d ds day
  rw[h2]at hz
  refine⟨hz,?_⟩
  cases q:dL d.it.for_ []with
  |true=>exact .inl rfl
  |false=>rw[q,Bool.false_or]at h1;exact .inr ⟨rfl,h1⟩
theorem ZM(day:Int)(p:aE)(m:List (Int×PStart))(ds:List PDeed)(d:PDeed)(hb:CE day p m ds d=false):kD 40 [aU d,.ls ((dD (dx m d.act) d ds).map aV),.ptr 1 0 0 0,.ptr 0 0 0 0,.ptr 2 0 0 0] (aa [i9 day,iZ p,rK,dh m,hJ d]) (.tuple []) (aa [i9 day,iZ p,rK,dh m,hJ d]):=by
  rcases WG hb with h|⟨h1,h2⟩
  · exact aaZ d _ day p m h
  · exact aaY d _ day p m h1 h2
theorem aa3(day:Int)(p:aE)(m:List (Int×PStart))(ds:List PDeed)(d:PDeed)(hb:By (CE day p m ds d) false):kD 40 [aU d,.ls ((dD (dx m d.act) d ds).map aV),.ptr 1 0 0 0,.ptr 0 0 0 0,.ptr 2 0 0 0] (aa [i9 day,iZ p,rK,dh m,hJ d]) (.tuple []) (aa [i9 day,iZ p,rK,dh m,hJ d]):=ZM day p m ds d hb
theorem aa2(day:Int)(p:aE)(m:List (Int×PStart))(ds:List PDeed)(d:PDeed)(hb:By (CE day p m ds d) true):kD 40 [aU d,.ls ((dD (dx m d.act) d ds).map aV),.ptr 1 0 0 0,.ptr 0 0 0 0,.ptr 2 0 0 0] (aa [i9 day,iZ p,rK,dh m,hJ d]) (.tuple []) (aa [i9 day,iZ p,qa 5 0 1,dh m,hJ d,qw 0 [d]]):=by
  obtain⟨h,h1|⟨h1,h2⟩⟩:=Qm hb
  · exact aaX d _ day p m h h1
  · exact aaW d _ day p m h h1 h2
theorem aa1(day:Int)(p:aE)(m:List (Int×PStart))(ds:List PDeed)(d:PDeed)(ep n:Nat)(out:List PDeed)(hb:By (CE day p m ds d) false):kD 40 [aU d,.ls ((dD (dx m d.act) d ds).map aV),.ptr 1 0 0 0,.ptr 0 0 0 0,.ptr 2 0 0 0] (aa [i9 day,iZ p,qa 4 ep n,dh m,qw ep out,hJ d]) (.tuple []) (aa [i9 day,iZ p,qa 4 ep n,dh m,qw ep out,hJ d]):=by
  rcases WG hb with h|⟨h1,h2⟩
  · exact aaV d _ day p m ep n out h
  · exact aaU d _ day p m ep n out h1 h2
theorem aa0(day:Int)(p:aE)(m:List (Int×PStart))(ds:List PDeed)(d:PDeed)(ep n:Nat)(out:List PDeed)(hb:By (CE day p m ds d) true)(hn:n=out.length)(hn2:n<2^20):kD 40 [aU d,.ls ((dD (dx m d.act) d ds).map aV),.ptr 1 0 0 0,.ptr 0 0 0 0,.ptr 2 0 0 0] (aa [i9 day,iZ p,qa 4 ep n,dh m,qw ep out,hJ d]) (.tuple []) (aa [i9 day,iZ p,qa 4 (ep+1) (n+1),dh m,qw (ep+1) (out++[d]),hJ d]):=by
  obtain⟨h,h1|⟨h1,h2⟩⟩:=Qm hb
  · exact aaT d _ day p m ep n out hn hn2 h h1
  · exact aaS d _ day p m ep n out hn hn2 h h1 h2
theorem Qp{day:Int}{p:aE}{m:List (Int×PStart)}{ds r:List PDeed}{d:PDeed}(h:gU d.it.kind=false):sn day p m ds (d::r)=sn day p m ds r:=by simp only[sn,List.filter_cons,h,Bool.false_and];rfl
theorem Qo{day:Int}{p:aE}{m:List (Int×PStart)}{ds r:List PDeed}{d:PDeed}(h:CE day p m ds d=false):sn day p m ds (d::r)=sn day p m ds r:=by simp only[sn,List.filter_cons,h,yG];rfl
theorem Qn{day:Int}{p:aE}{m:List (Int×PStart)}{ds r:List PDeed}{d:PDeed}(h:gU d.it.kind=true)(h2:CE day p m ds d=true):sn day p m ds (d::r)=d::sn day p m ds r:=by simp only[sn,List.filter_cons,h,h2];rfl
structure OnA(day:Int)(p:aE)(m:List (Int×PStart))(ds r:List PDeed):Prop where
  f:sn day p m ds ds=sn day p m ds r
structure OnR(day:Int)(p:aE)(m:List (Int×PStart))(ds r:List PDeed)(ep n:Nat)(out:List PDeed):Prop where
  len:n=out.length
  ep:ep+1=out.length
  small:out.length+r.length≤ds.length
  f:sn day p m ds ds=out++sn day p m ds r
theorem OnA.no{day:Int}{p:aE}{m:List (Int×PStart)}{ds r:List PDeed}{d:PDeed}(h:OnA day p m ds (d::r))(ha:gU d.it.kind=false):OnA day p m ds r:=⟨by rw[h.f,Qp ha]⟩
theorem OnA.nil{day:Int}{p:aE}{m:List (Int×PStart)}{ds r:List PDeed}{d:PDeed}(h:OnA day p m ds (d::r))(hb:CE day p m ds d=false):OnA day p m ds r:=⟨by rw[h.f,Qo hb]⟩
theorem OnA.new{day:Int}{p:aE}{m:List (Int×PStart)}{ds r:List PDeed}{d:PDeed}{n:Nat}(h:OnA day p m ds (d::r))(hl:(d::r).length≤ds.length)(ha:gU d.it.kind=true)(hb:CE day p m ds d=true)(hn:n=1):OnR day p m ds r 0 n [d]:=⟨hn,rfl,by simp only[lC,lN]at *;omega,by rw[h.f,Qn ha hb];rfl⟩
theorem OnR.no{day:Int}{p:aE}{m:List (Int×PStart)}{ds r:List PDeed}{d:PDeed}{ep n:Nat}{out:List PDeed}(h:OnR day p m ds (d::r) ep n out)(ha:gU d.it.kind=false):OnR day p m ds r ep n out:=⟨h.len,h.ep,by have:=h.small;simp only[lC]at this;omega,by rw[h.f,Qp ha]⟩
theorem OnR.nil{day:Int}{p:aE}{m:List (Int×PStart)}{ds r:List PDeed}{d:PDeed}{ep n:Nat}{out:List PDeed}(h:OnR day p m ds (d::r) ep n out)(hb:CE day p m ds d=false):OnR day p m ds r ep n out:=⟨h.len,h.ep,by have:=h.small;simp only[lC]at this;omega,by rw[h.f,Qo hb]⟩
theorem OnR.new{day:Int}{p:aE}{m:List (Int×PStart)}{ds r:List PDeed}{d:PDeed}{ep n k:Nat}{out:List PDeed}(h:OnR day p m ds (d::r) ep n out)(ha:gU d.it.kind=true)(hb:CE day p m ds d=true)(hk:k=n+1):OnR day p m ds r (ep+1) k (out++[d]):=by
  have:=h.len;have:=h.ep;have:=h.small
  refine⟨?_,?_,?_,by rw[h.f,Qn ha hb,ia];rfl⟩<;>simp only[lA,lC,lN]at * <;>omega
theorem OnR.done{day:Int}{p:aE}{m:List (Int×PStart)}{ds:List PDeed}{ep n:Nat}{out:List PDeed}(h:OnR day p m ds [] ep n out):ep=(sn day p m ds ds).length -1∧n=(sn day p m ds ds).length∧out=sn day p m ds ds:=by
  have e:sn day p m ds ds=out:=by rw[h.f];exact dO _
  have:=h.len;have:=h.ep
  rw[e];exact⟨by omega,by omega,rfl⟩
theorem Xo{α:Type}{l r:List α}{j:Nat}{a:α}(h:l.drop j=a::r):(a::r).length≤l.length:=by rw[←h,wo];omega
theorem WH{day:Int}{p:aE}{m:List (Int×PStart)}{ds r:List PDeed}{d:PDeed}(h:sn day p m ds (d::r)=[])(ha:gU d.it.kind=true):CE day p m ds d=false:=by
  cases q:CE day p m ds d with
  |false=>rfl
  |true=>rw[Qn ha q]at h;cases h
theorem YO(gs:List PGaz)(L:List PAct)(ds:List PDeed)(day:Int)(p:aE)(hL:L.length<10000)(hd:ds.length<100000)(ha:kP 63 [.ls (gs.map bZ)] (.ls (L.map ay)))(hi:kP 64 [.ls (gs.map bZ)] (.ls (ds.map aU)))(hE:sn day p (yz L []) ds ds=[]):
    kD 39 [.ls (gs.map bZ),.func (.func 40) [] [.ptr 1 0 0 0,.ptr 0 0 0 0,.ptr 2 0 0 0]] (aa [i9 day,iZ p,rK]) (.tuple []) (aa [i9 day,iZ p,rK]):=by
  have hlk:=AY
  have hup:=Ck
  let q1:=[iV day];exact gg Tryz.func39 fun a=>Kp 2 ha<|Kl 0 13 (ln ay L)<|Mg 0<|M9 ay L ([]:List (Int×PStart)) [0,1,4,12,13,14] (fun a _ b=>([aW<|gs.map bZ,bv (bw 40) [] [bK 1 0 0 0,bK 0 0 0 0,bK 2 0 0 0],AV.map 3,aW<|L.map ay,nV L.length,nV a],[aZ 1 false 0 [iV day],aZ 1 false 0 [aj p],aZ 1 false 0 [ab],AObj.map (b9 aB b 0) b.length])) (fun a b=>yz L []=yz a b) (by rfl) (fun _ _ b _ _ _ c d=>Kh 0 c<|Kp 0 hi<|Kl 2 27 (ln aU ds)<|Mg 0<|XV (0:Nat) ds () [1,4,7,26,27,28] (fun a _ _=>([bv (bw 40) [] [bK 1 0 0 0,bK 0 0 0 0,bK 2 0 0 0],AV.map 3,aW<|ds.map aU,aW<|ds.map aU,nV ds.length,nV a],[aZ 1 false 0 [iV day],aZ 1 false 0 [aj p],aZ 1 false 0 [ab],AObj.map (b9 aB b 0) b.length])) (fun a c _=>(ds).drop a=c∧sn day p b ds c=[]) (fun _ a _=>a.length) (et rfl<|by(rw[←show yz L []=b from d];exact hE)) fun c d e f g=>Mc d (fun c=>have d:=fg f.1 c;have:=iX (J:=fun a _=>sn day p b ds a=[]) (a:=e) c f.2;Kh 0 d<|M1 (.frz 3 []) (kL rt rt rt ti)<|Mf a) fun a d h=>let i:=[aw [iV a.act,iV a.item,iV a.day,iV a.it.kind,aW<|a.it.at_.map ax,aW<|a.it.to.map ax,iV a.it.where_,iV a.it.nth_,iV a.it.unit.act,iV a.it.unit.item,iV a.it.unit.n,iV a.it.unit.kind,aj a.it.unit.label,aW<|a.it.unit.head.map aQ,aW<|a.it.unit.words.map aQ,aW<|a.it.unit.kids.map aY,aW<|a.it.old.map nr,aW<|a.it.new.map nr,aj a.it.label,aj a.it.for_,iV a.it.start.kind,iV a.it.start.day,aj a.it.start.event,iV a.it.act,iV a.it.item,iV a.it.day,aj a.it.event,aW<|a.it.by_.map Ot]];have j:=fR f.1 h;have:=ae j;have k:=fe (enc:=aU) f.1 h;have e:=cX (J:=fun a _=>sn day p b ds a=[]) (a:=e) h f.2;Kt 0 j<|Mx k<|Kp 5 (nH a.it.kind)<|Mb (gU a.it.kind) (fun _=>K1 4 (.look<|aw [iV (dx b a.act).kind,iV (dx b a.act).day,aj (dx b a.act).event]) (hlk b a.act)<|Kp 1 (nc (dx b a.act) a ds<|by(omega))<|M3 (.efx true (cn [])<|aa [aZ 1 false 0 q1,aZ 1 false 0 [aj p],aZ 1 false 0 [ab],AObj.map (b9 aB b 0) b.length,aZ 28 false 0 i]) (yo rt (tM b.length 5<|aH (f:=aB) (fun _=>rfl) b 0) rt rt rt ti) (yo (aK<|some<|aZ 28 false 0 i) (aK<|some<|AObj.map (b9 aB b 0) b.length) (aK<|some<|aZ 1 false 0 [ab]) (aK<|some<|aZ 1 false 0 [aj p]) (aK<|some<|aZ 1 false 0 q1) ti) (ZM day p b ds a<|by exact WH e (by assumption))<|Kl 0 46 (dm c)<|K1 0 (.frz 4 [1,4,7,26,27,28]) (It (tM b.length 4<|aH (f:=aB) (fun _=>rfl) b 0) rt rt rt ti)<|Mf<|g (c+1) d () (et (bh f.1 h)<|by(have z:=e;rw[Qo (WH z (by assumption))]at z;exact z))<|eA h) fun _=>Kl 0 46 (dm c)<|K1 0 (.frz 4 [1,4,7,26,27,28]) (It (tM b.length 4<|aH (f:=aB) (fun _=>rfl) b 0) rt rt rt ti)<|Mf<|g (c+1) d () (et (bh f.1 h)<|by(have z:=e;rw[Qp (by assumption)]at z;exact z))<|eA h) fun a _ b _ _ c d e _ f _ g h=>Kt 0 f<|Mx g<|K1 7 (.upd (b9 aB (lV c.number c.start b) 0) (lV c.number c.start b).length) (hup b c)<|Kl 0 23 (dm a)<|K1 0 (.frz 4 [0,1,4,12,13,14]) (It (tM (lV c.number c.start b).length 4<|aH (f:=aB) (fun _=>rfl) (lV c.number c.start b) 0) rt rt rt ti)<|Mf<|e (lV c.number c.start b)<|by exact h
def IY(gs:List PGaz)(L:List PAct)(day:Int)(p:aE)(x0:Nat×List PAct×List (Int×PStart)):Prop:=(L).drop x0.1=x0.2.1∧yz L []=yz x0.2.1 x0.2.2
noncomputable def xu(gs:List PGaz)(L:List PAct)(day:Int)(p:aE)(x0:Nat×List PAct×List (Int×PStart)):List AV×List AObj:=([AV.ls (gs.map bZ),AV.func (Fn.func 40) [] [AV.ptr 1 0 0 0,AV.ptr 0 0 0 0,AV.ptr 2 0 0 0],AV.map 3,AV.ls (L.map ay),nV L.length,nV x0.1],[AObj.row 1 false 0 [iV day],AObj.row 1 false 0 [AV.str p],AObj.row 1 false 0 [AV.nils],AObj.map (b9 aB x0.2.2 0) x0.2.2.length])
def IV(ds:List PDeed)(day:Int)(p:aE)(x0:Nat×List PAct×List (Int×PStart))(x1:Nat×List PDeed×Unit):Prop:=(ds).drop x1.1=x1.2.1∧OnA day p x0.2.2 ds x1.2.1
noncomputable def xt(ds:List PDeed)(day:Int)(p:aE)(x0:Nat×List PAct×List (Int×PStart))(x1:Nat×List PDeed×Unit):List AV×List AObj:=([AV.func (Fn.func 40) [] [AV.ptr 1 0 0 0,AV.ptr 0 0 0 0,AV.ptr 2 0 0 0],AV.map 3,AV.ls (ds.map aU),AV.ls (ds.map aU),nV ds.length,nV x1.1],[AObj.row 1 false 0 [iV day],AObj.row 1 false 0 [AV.str p],AObj.row 1 false 0 [AV.nils],AObj.map (b9 aB x0.2.2 0) x0.2.2.length])
def IK(ds:List PDeed)(day:Int)(p:aE)(x0:Nat×List PAct×List (Int×PStart))(x1:Nat×List PDeed×Nat×Nat×List PDeed):Prop:=(ds).drop x1.1=x1.2.1∧OnR day p x0.2.2 ds x1.2.1 x1.2.2.1 x1.2.2.2.1 x1.2.2.2.2
noncomputable def IJ(ds:List PDeed)(day:Int)(p:aE)(x0:Nat×List PAct×List (Int×PStart))(x1:Nat×List PDeed×Nat×Nat×List PDeed):List AV×List AObj:=([AV.func (Fn.func 40) [] [AV.ptr 1 0 0 0,AV.ptr 0 0 0 0,AV.ptr 2 0 0 0],AV.map 3,AV.ls (ds.map aU),AV.ls (ds.map aU),nV ds.length,nV x1.1],[AObj.row 1 false 0 [iV day],AObj.row 1 false 0 [AV.str p],AObj.row 1 false 0 [AV.slice 4 x1.2.2.1 0 x1.2.2.2.1 none],AObj.map (b9 aB x0.2.2 0) x0.2.2.length,AObj.row 28 true x1.2.2.1 (x1.2.2.2.2.map aU)])
theorem YN(gs:List PGaz)(L:List PAct)(ds:List PDeed)(day:Int)(p:aE)(hL:L.length<10000)(hd:ds.length<100000)(ha:kP 63 [.ls (gs.map bZ)] (.ls (L.map ay)))(hi:kP 64 [.ls (gs.map bZ)] (.ls (ds.map aU)))(hE:sn day p (yz L []) ds ds≠[]):
    kD 39 [.ls (gs.map bZ),.func (.func 40) [] [.ptr 1 0 0 0,.ptr 0 0 0 0,.ptr 2 0 0 0]] (aa [i9 day,iZ p,rK]) (.tuple []) (aa [i9 day,iZ p,qa 3 ((sn day p (yz L []) ds ds).length -1) (sn day p (yz L []) ds ds).length,qw ((sn day p (yz L []) ds ds).length -1) (sn day p (yz L []) ds ds)]):=by
  have hlk:=AY
  have hup:=Ck
  let q5:=[iV day];let q8:=cn [];let q10:=some (aZ 1 false 0 [aj p]);let q11:=some (aZ 1 false 0 q5);exact TC Tryz.func39<|Kp 2 ha<|Kl 0 13 (ln ay L)<|Mg 0<|ML (Nat×List PAct×List (Int×PStart)) [0,1,4,12,13,14] (xu gs L day p) (IY gs L day p) (fun a=>a.2.1.length) (0,L,[]) (aK<|xu gs L day p (0,L,[])) (et (rfl:List.drop 0 (L)=L) (by rfl:(yz L []=yz L []))) fun a b c=>let d:=some<|AObj.map (b9 aB a.2.2 0) a.2.2.length;Mi (fun a b=>yz L []=yz a b) ay b (fun _ b c=>Kh 0 b<|Kp 0 hi<|Kl 2 27 (ln aU ds)<|Mg 0<|MM (Nat×List PDeed×Unit) (Nat×List PDeed×Nat×Nat×List PDeed) [1,4,7,26,27,28] (xt ds day p a) (IJ ds day p a) (IV ds day p a) (IK ds day p a) (fun a=>a.2.1.length) (fun a=>a.2.1.length) (.inl (0,ds,())) (aK<|xt ds day p a (0,ds,())) (et (rfl:List.drop 0 (ds)=ds) (by(exact⟨rfl⟩):(OnA day p a.2.2 ds ds))) (fun b e f=>Mc b.2.1 (fun d=>have f:=fg e.1 d;have b:=iX (J:=fun b _=>OnA day p a.2.2 ds b) (a:=b.2.2) d e.2;Kh 0 f<|Mw .abs (by exact hE (by rw[show yz L []=a.2.2 from c];exact b.f):False)) fun c g h=>let i:=[aw [iV c.act,iV c.item,iV c.day,iV c.it.kind,aW<|c.it.at_.map ax,aW<|c.it.to.map ax,iV c.it.where_,iV c.it.nth_,iV c.it.unit.act,iV c.it.unit.item,iV c.it.unit.n,iV c.it.unit.kind,aj c.it.unit.label,aW<|c.it.unit.head.map aQ,aW<|c.it.unit.words.map aQ,aW<|c.it.unit.kids.map aY,aW<|c.it.old.map nr,aW<|c.it.new.map nr,aj c.it.label,aj c.it.for_,iV c.it.start.kind,iV c.it.start.day,aj c.it.start.event,iV c.it.act,iV c.it.item,iV c.it.day,aj c.it.event,aW<|c.it.by_.map Ot]];let j:=aw [iV (dx a.2.2 c.act).kind,iV (dx a.2.2 c.act).day,aj (dx a.2.2 c.act).event];have k:=fR e.1 h;have:=ae k;have l:=fe (enc:=aU) e.1 h;have m:=cX (J:=fun b _=>OnA day p a.2.2 ds b) (a:=b.2.2) h e.2;Kt 0 k<|Mx l<|Kp 5 (nH c.it.kind)<|Mb (gU c.it.kind) (fun _=>Ms (CE day p a.2.2 ds c) (fun d=>K1 4 (.look j) (hlk a.2.2 c.act)<|Kp 1 (nc (dx a.2.2 c.act) c ds<|by(omega))<|M3 (.efx false q8<|aa [aZ 1 false 0 q5,aZ 1 false 0 [aj p],aZ 1 false 0 [aN 5 0 0 1 none],AObj.map (b9 aB a.2.2 0) a.2.2.length,aZ 28 false 0 i,aZ 28 true 0 i]) (yo rt (tM a.2.2.length 5<|aH (f:=aB) (fun _=>rfl) a.2.2 0) rt rt rt ti) ti (aa2 day p a.2.2 ds c d)<|Kl 0 46 (dm b.1)<|K1 0 (.ren [0,1,2,3,5,4] [3] [1,4,7,26,27,28]) (tN a.2.2.length<|aH (f:=aB) (fun _=>rfl) a.2.2 0)<|M1 (.frz 5 [1,4,7,26,27,28]) (yo rt (tM a.2.2.length 5<|aH (f:=aB) (fun _=>rfl) a.2.2 0) rt rt rt ti)<|Mf<|f (.inr (b.1+1,g,(0,1,[c]))) (et (bh e.1 h) (by exact m.new (Xo (e.1.trans h)) (by assumption) (by assumption) rfl:(OnR day p a.2.2 ds g (0:Nat) (1:Nat) [c])))<|eA h) fun k=>K1 4 (.look j) (hlk a.2.2 c.act)<|Kp 1 (nc (dx a.2.2 c.act) c ds<|by(omega))<|M3 (.efx true q8<|aa [aZ 1 false 0 q5,aZ 1 false 0 [aj p],aZ 1 false 0 [ab],AObj.map (b9 aB a.2.2 0) a.2.2.length,aZ 28 false 0 i]) (yo rt (tM a.2.2.length 5<|aH (f:=aB) (fun _=>rfl) a.2.2 0) rt rt rt ti) (yo (aK<|some<|aZ 28 false 0 i) (aK d) (aK<|some<|aZ 1 false 0 [ab]) (aK q10) (aK q11) ti) (aa3 day p a.2.2 ds c k)<|Kl 0 46 (dm b.1)<|K1 0 (.frz 4 [1,4,7,26,27,28]) (It (tM a.2.2.length 4<|aH (f:=aB) (fun _=>rfl) a.2.2 0) rt rt rt ti)<|Mf<|f (.inl (b.1+1,g,())) (et (bh e.1 h) (by exact m.nil (by assumption):(OnA day p a.2.2 ds g)))<|eA h) fun _=>Kl 0 46 (dm b.1)<|K1 0 (.frz 4 [1,4,7,26,27,28]) (It (tM a.2.2.length 4<|aH (f:=aB) (fun _=>rfl) a.2.2 0) rt rt rt ti)<|Mf<|f (.inl (b.1+1,g,())) (et (bh e.1 h) (by exact m.no (by assumption):(OnA day p a.2.2 ds g)))<|eA h) fun b e f=>let g:=[aN 4 b.2.2.1 0 b.2.2.2.1 none];let h:=List.map aU b.2.2.2.2;Mc b.2.1 (fun d=>have f:=fg e.1 d;have d:=iX (J:=fun b c=>OnR day p a.2.2 ds b c.1 c.2.1 c.2.2) (a:=b.2.2) d e.2;Kh 0 f<|M2 (.ren [0,1,2,4,3] [4,3] []) (tS 28 true b.2.2.1<|aX xn b.2.2.2.2) (tN a.2.2.length<|aH (f:=aB) (fun _=>rfl) a.2.2 0)<|M1 (.frz 4 []) (It (tR 28 true b.2.2.1 4<|aX xn b.2.2.2.2) rt rt rt ti)<|Mf<|et (aK q8) (by(have q:=d.done;rw[show yz L []=a.2.2 from c,q.1,q.2.1,q.2.2]):(aa [AObj.row 1 false 0 [iV day],AObj.row 1 false 0 [AV.str p],AObj.row 1 false 0 [AV.slice 3 b.2.2.1 0 b.2.2.2.1 none],AObj.row 28 true b.2.2.1 (b.2.2.2.2.map aU)])=(aa [i9 day,iZ p,qa 3 ((sn day p (yz L []) ds ds).length -1) (sn day p (yz L []) ds ds).length,qw ((sn day p (yz L []) ds ds).length -1) (sn day p (yz L []) ds ds)]))) fun c i j=>let k:=[aw [iV c.act,iV c.item,iV c.day,iV c.it.kind,aW<|c.it.at_.map ax,aW<|c.it.to.map ax,iV c.it.where_,iV c.it.nth_,iV c.it.unit.act,iV c.it.unit.item,iV c.it.unit.n,iV c.it.unit.kind,aj c.it.unit.label,aW<|c.it.unit.head.map aQ,aW<|c.it.unit.words.map aQ,aW<|c.it.unit.kids.map aY,aW<|c.it.old.map nr,aW<|c.it.new.map nr,aj c.it.label,aj c.it.for_,iV c.it.start.kind,iV c.it.start.day,aj c.it.start.event,iV c.it.act,iV c.it.item,iV c.it.day,aj c.it.event,aW<|c.it.by_.map Ot]];let l:=aw [iV (dx a.2.2 c.act).kind,iV (dx a.2.2 c.act).day,aj (dx a.2.2 c.act).event];have m:=fR e.1 j;have:=ae m;have n:=fe (enc:=aU) e.1 j;have o:=cX (J:=fun b c=>OnR day p a.2.2 ds b c.1 c.2.1 c.2.2) (a:=b.2.2) j e.2;Kt 0 m<|Mx n<|Kp 5 (nH c.it.kind)<|Mb (gU c.it.kind) (fun _=>Ms (CE day p a.2.2 ds c) (fun d=>K1 4 (.look l) (hlk a.2.2 c.act)<|Kp 1 (nc (dx a.2.2 c.act) c ds<|by(omega))<|M3 (.efx false q8<|aa [aZ 1 false 0 q5,aZ 1 false 0 [aj p],aZ 1 false 0 [aN 4 (b.2.2.1+1) 0 (b.2.2.2.1+1) none],AObj.map (b9 aB a.2.2 0) a.2.2.length,aZ 28 true (b.2.2.1+1)<|(b.2.2.2.2++[c]).map aU,aZ 28 false 0 k]) (Oi rt (tR 28 true b.2.2.1 6<|aX xn b.2.2.2.2) (tM a.2.2.length 6<|aH (f:=aB) (fun _=>rfl) a.2.2 0) rt rt rt ti) ti (aa0 day p a.2.2 ds c b.2.2.1 b.2.2.2.1 b.2.2.2.2 d (by exact o.len)<|by(have z:=o.small;have z2:=o.len;simp only[lC]at z;omega))<|Kl 0 46 (dm b.1)<|K1 0 (.frz 5 [1,4,7,26,27,28]) (yo (tR 28 true (b.2.2.1+1) 5<|aX xn<|b.2.2.2.2++[c]) (tM a.2.2.length 5<|aH (f:=aB) (fun _=>rfl) a.2.2 0) rt rt rt ti)<|Mf<|f (.inr (b.1+1,i,(b.2.2.1+1,b.2.2.2.1+1,b.2.2.2.2++[c]))) (et (bh e.1 j) (by exact o.new (by assumption) (by assumption) rfl:(OnR day p a.2.2 ds i (b.2.2.1+1) (b.2.2.2.1+1) (b.2.2.2.2++[c]))))<|eA j) fun m=>K1 4 (.look l) (hlk a.2.2 c.act)<|Kp 1 (nc (dx a.2.2 c.act) c ds<|by(omega))<|M3 (.efx true q8<|aa [aZ 1 false 0 q5,aZ 1 false 0 [aj p],aZ 1 false 0 g,AObj.map (b9 aB a.2.2 0) a.2.2.length,aZ 28 true b.2.2.1 h,aZ 28 false 0 k]) (Oi rt (tR 28 true b.2.2.1 6<|aX xn b.2.2.2.2) (tM a.2.2.length 6<|aH (f:=aB) (fun _=>rfl) a.2.2 0) rt rt rt ti) (Oi (aK<|some<|aZ 28 false 0 k) (aK<|some<|aZ 28 true b.2.2.1 h) (aK d) (aK<|some<|aZ 1 false 0 g) (aK q10) (aK q11) ti) (aa1 day p a.2.2 ds c b.2.2.1 b.2.2.2.1 b.2.2.2.2 m)<|Kl 0 46 (dm b.1)<|K1 0 (.frz 5 [1,4,7,26,27,28]) (yo (tR 28 true b.2.2.1 5<|aX xn b.2.2.2.2) (tM a.2.2.length 5<|aH (f:=aB) (fun _=>rfl) a.2.2 0) rt rt rt ti)<|Mf<|f (.inr (b.1+1,i,(b.2.2.1,b.2.2.2.1,b.2.2.2.2))) (et (bh e.1 j) (by exact o.nil (by assumption):(OnR day p a.2.2 ds i b.2.2.1 b.2.2.2.1 b.2.2.2.2)))<|eA j) fun _=>Kl 0 46 (dm b.1)<|K1 0 (.frz 5 [1,4,7,26,27,28]) (yo (tR 28 true b.2.2.1 5<|aX xn b.2.2.2.2) (tM a.2.2.length 5<|aH (f:=aB) (fun _=>rfl) a.2.2 0) rt rt rt ti)<|Mf<|f (.inr (b.1+1,i,(b.2.2.1,b.2.2.2.1,b.2.2.2.2))) (et (bh e.1 j) (by exact o.no (by assumption):(OnR day p a.2.2 ds i b.2.2.1 b.2.2.2.1 b.2.2.2.2)))<|eA j) fun d e f g _ h i=>Kt 0 g<|Mx h<|K1 7 (.upd (b9 aB (lV d.number d.start a.2.2) 0) (lV d.number d.start a.2.2).length) (hup a.2.2 d)<|Kl 0 23 (dm a.1)<|K1 0 (.frz 4 [0,1,4,12,13,14]) (It (tM (lV d.number d.start a.2.2).length 4<|aH (f:=aB) (fun _=>rfl) (lV d.number d.start a.2.2) 0) rt rt rt ti)<|Mf<|c (a.1+1,e,lV d.number d.start a.2.2) (et (bh b.1 f) (by exact i:(yz L []=yz e (lV d.number d.start a.2.2))))<|eA f
/-- What is in force on a day for a purpose. -/
noncomputable def onL(day:Int)(p:aE)(L:List PAct)(ds:List PDeed):List PDeed:=sn day p (yz L []) ds ds
theorem ZI(gs:List PGaz)(day:Int)(p:aE)(hc:kD 39 [.ls (gs.map bZ),.func (.func 40) [] [.ptr 1 0 0 0,.ptr 0 0 0 0,.ptr 2 0 0 0]] (aa [i9 day,iZ p,rK]) (.tuple []) (aa [i9 day,iZ p,rK])):kP 20 [iV day,.str p,.ls (gs.map bZ)] (.ls (([]:List PDeed).map aU)):=by
  exact bF Tryz.func20<|Ke 5 hc<|Kf 1 bM
theorem ZH(gs:List PGaz)(day:Int)(p:aE)(X:List PDeed)(k:Nat)(hz:0<X.length)(hb:X.length<2^40)(hc:kD 39 [.ls (gs.map bZ),.func (.func 40) [] [.ptr 1 0 0 0,.ptr 0 0 0 0,.ptr 2 0 0 0]] (aa [i9 day,iZ p,rK]) (.tuple []) (aa [i9 day,iZ p,qa 3 k X.length,qw k X])):kP 20 [iV day,.str p,.ls (gs.map bZ)] (.ls (X.map aU)):=by
  let q:=List.map aU X;exact bF Tryz.func20<|Ke 5 hc<|Mg 1<|M2 (.fsl 0 [] 6 q) ti (ct (aK k) (tA aU X X.length rfl)<|aX xn X)<|Ml 6 (fG q false<|aX xn X)<|Mf<|bu<|aW q
theorem ZL(gs:List PGaz)(L:List PAct)(ds:List PDeed)(day:Int)(p:aE)(hL:L.length<10000)(hd:ds.length<100000)(ha:kP 63 [.ls (gs.map bZ)] (.ls (L.map ay)))(hi:kP 64 [.ls (gs.map bZ)] (.ls (ds.map aU))):kP 20 [iV day,.str p,.ls (gs.map bZ)] (.ls ((onL day p L ds).map aU)):=by
  by_cases hE:onL day p L ds=[]
  · rw[hE];exact ZI gs day p (YO gs L ds day p hL hd ha hi hE)
  · have hl:(onL day p L ds).length≤ds.length:=List.length_filter_le ..
    exact ZH gs day p _ _ (qr.2 hE) (by omega) (YN gs L ds day p hL hd ha hi hE)
/-- The book with nothing in it. -/
def qh:TUnit:=⟨0,0,0,0,[],[],[],[]⟩
theorem J6:OkB qh:=⟨by decide,by decide,fun x hx=>by
  have e:x=qh:=by simpa[qh,bW,dQ]using hx
  subst e;exact⟨bP _,bP _⟩⟩
theorem Y7(X:List PDeed)(hl:X.length<2^30)(ho:∀d,d∈X→vR d.it):kP 55 [zU,.ls (X.map aU)] (.tuple [eU (c8 qh X),.ls ((fF qh X).map iL)]):=
  (Tx qh X J6 hl ho).args (.cons (wi _ _ (by kernel_rfl)).1 (.cons (Le.refl _) .nil))
theorem SF(X:List PDeed)(hl:X.length<2^30)(ho:∀d,d∈X→vR d.it):kP 34 [.ls (X.map aU)] (.tuple [eU (c8 qh X),.ls ((fF qh X).map iL)]):=by
  have h:=Y7 X hl ho
  exact bF Tryz.func34<|Kp 3 h<|Kf 3<|bu<|cn [aw [iV (c8 qh X).act,iV (c8 qh X).item,iV (c8 qh X).n,iV (c8 qh X).kind,aj (c8 qh X).label,aW<|List.map aQ (c8 qh X).head,aW<|List.map aQ (c8 qh X).words,aW<|List.map aY (c8 qh X).kids],aW<|(fF qh X).map iL]
theorem Wz(gs:List PGaz)(day:Int)(p:aE)(X:List PDeed)(hon:kP 20 [iV day,.str p,.ls (gs.map bZ)] (.ls (X.map aU))):kP 33 [iV day,.str p,.ls (gs.map bZ)] (.ls (X.map aU)):=by
  exact bF Tryz.func33<|Kp 3 hon<|Kf 0<|bu<|aW<|X.map aU
theorem S5(gs:List PGaz)(day:Int)(p:aE)(X:List PDeed)(hl:X.length<2^30)(ho:∀d,d∈X→vR d.it)(hon:kP 20 [iV day,.str p,.ls (gs.map bZ)] (.ls (X.map aU))):kP 12 [iV day,.str p,.ls (gs.map bZ)] (eU (c8 qh X)):=by
  have h1:=Wz gs day p X hon
  have h2:=SF X hl ho
  exact bF Tryz.func12<|Kp 3 h1<|Mp h2<|Kf 7<|bu<|aw [iV (c8 qh X).act,iV (c8 qh X).item,iV (c8 qh X).n,iV (c8 qh X).kind,aj (c8 qh X).label,aW<|List.map aQ (c8 qh X).head,aW<|List.map aQ (c8 qh X).words,aW<|List.map aY (c8 qh X).kids]
/-- What the bound on gazettes tells. -/
structure OkG(gs:List PGaz):Prop where
  fit:qq gs
  len:gs.length≤9
  acts:∀g,g∈gs→g.acts.length≤8
  items:∀g,g∈gs→∀a,a∈g.acts→a.items.length≤24∧∀x,x∈a.items→nl x=true
theorem Ht{most:Int}:∀(l:List PAct)(n m:Int),most=24→0≤n→mg most l n=some m→0≤m∧∀a,a∈l→a.items.length≤24∧∀x,x∈a.items→nl x=true
  |[],n,m,_,hn,h=>by simp only[mg,xG]at h;exact⟨h▸hn,fun a ha=>by cases ha⟩
  | b::r,n,m,hm,hn,h=>by
    unfold mg at h
    cases hb:Bf most n b with
    |true=>rw[hb]at h;cases h
    | false=>
      rw[hb]at h
      unfold Bf at hb
      simp only[wC]at hb
      obtain⟨z1,_,_,z2⟩:=hb
      have z1:=af z1
      obtain⟨q1,q2⟩:=Ht r (n+Int.ofNat b.items.length) m hm (by simp only[oN]at *;omega) h
      refine⟨q1,fun a ha=>?_⟩
      rcases ed.1 ha with rfl|ha
      · refine⟨by simp only[oN]at *;omega,fun x hx=>?_⟩
        have z3:=kf z2
        exact kO.1 z3 x hx
      · exact q2 a ha
theorem MJ:∀(l:List PGaz)(n:Int),0≤n→uN 24 l n=true→∀g,g∈l→g.acts.length≤8∧∀a,a∈g.acts→a.items.length≤24∧∀x,x∈a.items→nl x=true
  |[],_,_,_,g,hg=>by cases hg
  | x::r,n,hn,h,g,hg=>by
    unfold uN at h
    cases hb:wY x with
    |true=>rw[hb]at h;cases h
    | false=>
      rw[hb]at h
      cases ha:mg 24 x.acts n with
      |none=>rw[ha]at h;cases h
      | some m=>
        rw[ha]at h
        obtain⟨q1,q2⟩:=Ht x.acts n m rfl hn ha
        rcases ed.1 hg with rfl|hg
        · unfold wY at hb
          have:=af (wC.1 hb).1
          exact⟨by simp only[oN]at *;omega,q2⟩
        · exact MJ r m q1 h g hg
theorem XM{gs:List PGaz}{p:aE}(hf:qq gs)(h:Oe gs p=true):OkG gs∧gs.length≤8:=by
  unfold Oe at h
  have h1:=(ql.1 h).1
  unfold Of at h1
  cases hb:ao 8 (Int.ofNat gs.length)with
  |true=>rw[hb]at h1;cases h1
  | false=>
    rw[hb]at h1
    have:=af hb
    have hl:gs.length≤8:=by simp only[oN]at *;omega
    have q:=MJ gs 0 (by omega) h1
    exact⟨⟨hf,by omega,fun g hg=>(q g hg).1,fun g hg=>(q g hg).2⟩,hl⟩
theorem Cb:∀(ys out:List PAct),(ys.foldl jl out).length≤out.length+ys.length
  |[],out=>an _
  | a::r,out=>by
    have:=Cb r (jl out a);have:=(PA out a).2
    simp only[m5,lC];omega
theorem AA:∀(gs:List PGaz),(∀g,g∈gs→g.acts.length≤8)→∀out,(bY gs out).length≤out.length+8*gs.length
  |[],_,out=>an _
  | g::r,hb,out=>by
    have:=AA r (fun x hx=>hb x (eQ _ hx)) (g.acts.foldl jl out)
    have:=Cb g.acts out
    have:=hb g (eG ..)
    simp only[bY,m5,lC]at *
    omega
theorem Pu{out:List PAct}{a b:PAct}(h:b∈jl out a):b∈out∨b=a:=by
  unfold jl at h
  split at h
  · exact .inl h
  · rcases jg.1 h with h|h
    · exact .inl h
    · exact .inr (qo.1 h)
theorem Ca:∀(ys out:List PAct)(b:PAct),b∈ys.foldl jl out→b∈out∨b∈ys
  |[],out,b,h=>.inl h
  | a::r,out,b,h=>by
    rcases Ca r (jl out a) b h with h|h
    · rcases Pu h with h|rfl
      · exact .inl h
      · exact .inr (eG ..)
    · exact .inr (eQ _ h)
theorem Au:∀(gs:List PGaz)(out:List PAct)(b:PAct),b∈bY gs out→b∈out∨∃g,g∈gs∧b∈g.acts
  |[],out,b,h=>.inl h
  | g::r,out,b,h=>by
    rcases Au r (g.acts.foldl jl out) b h with h|⟨g2,q1,q2⟩
    · rcases Ca g.acts out b h with h|h
      · exact .inl h
      · exact .inr ⟨g,eG ..,h⟩
    · exact .inr ⟨g2,eQ _ q1,q2⟩
theorem vd:∀(l:List PAct),(∀a,a∈l→a.items.length≤24)→(kH l).length≤24*l.length
  |[],_=>an _
  | a::r,h=>by
    have:=vd r fun b hb=>h b (eQ _ hb)
    have:=h a (eG ..)
    simp only[kH,B9,lA,mX,lC]at *
    omega
theorem OkG.act{gs:List PGaz}(h:OkG gs){a:PAct}(ha:a∈fJ gs):a.items.length≤24∧(∀x,x∈a.items→nl x=true)∧SY a:=by
  have ha:=(jI gs).mem_iff.1 ha
  rcases Au gs [] a ha with q|⟨g,h1,h2⟩
  · cases q
  · exact⟨(h.items g h1 a h2).1,(h.items g h1 a h2).2,(h.fit.2 g h1).2 a h2⟩
/-- The items as they stand. -/
noncomputable def nE(gs:List PGaz):List PDeed:=b6 (ar (fJ gs) []) (fJ gs)
theorem OkG.lens{gs:List PGaz}(h:OkG gs):(fJ gs).length≤72∧(nE gs).length≤1728:=by
  have h1:=AA gs h.acts []
  have h2:=(jI gs).length_eq
  have h3:=vd (fJ gs) fun a ha=>(h.act ha).1
  have h4:=h.len
  have h5:(nE gs).length=(kH (fJ gs)).length:=cK ..
  simp only[lN]at h1
  omega
theorem OkG.all{gs:List PGaz}(h:OkG gs):kP 63 [.ls (gs.map bZ)] (.ls ((fJ gs).map ay))∧kP 64 [.ls (gs.map bZ)] (.ls ((nE gs).map aU)):=by
  have h1:=h.lens
  have h2:=(jI gs).length_eq
  have h3:(nE gs).length=(kH (fJ gs)).length:=cK ..
  have h4:=h.len
  exact⟨M8 gs h.fit (fun g hg=>qQ (h.acts g hg) (by decide)) (by omega) (by omega),Rb gs h.fit (fun g hg=>qQ (h.acts g hg) (by decide)) (by omega) (by omega) (fun a ha=>qQ (h.act ha).1 (by decide)) (by omega)⟩
theorem Y2{x y:PItem}(h:nl x=true)(hy:y∈x.by_):nl y=true:=by
  rw[EN]at h
  simp only[aO]at h
  have:=kO.1 h.2.2.2.2.2 y hy
  unfold Iq at this
  exact(ql.1 this).2
theorem Y1{x y:PItem}(h:nL x)(hy:y∈x.by_):nL y:=(ra.1 h).2.2.2.2.2.2 y hy
theorem GY{K V:Type}{keq:K→K→Bool}{k:K}{v:V}:∀{l:List (K×V)}{e:K×V},e∈eW keq k v l→e∈l∨e.2=v
  | [],e,h=>by
    rw[eW,qo]at h;exact .inr (by rw[h])
  | (j,u)::r,e,h=>by
    rw[eW]at h
    cases q:keq k j with
    | true=>
      rw[q]at h
      rcases ed.1 h with h|h
      · exact .inr (by rw[h])
      · exact .inl (eQ _ h)
    | false=>
      rw[q]at h
      rcases ed.1 h with h|h
      · exact .inl (by rw[h];exact eG ..)
      · rcases GY (l:=r) h with h|h
        · exact .inl (eQ _ h)
        · exact .inr h
theorem Hv{K V:Type}{keq:K→K→Bool}{k:K}{v:V}:∀{l:List (K×V)},mE keq k l=some v→∃e,e∈l∧e.2=v
  |[],h=>by cases h
  | (j,u)::r,h=>by
    rw[mE]at h
    cases q:keq k j with
    |true=>rw[q]at h;exact⟨(j,u),eG ..,KE h⟩
    | false=>
      rw[q]at h
      obtain⟨e,h1,h2⟩:=Hv (l:=r) h
      exact⟨e,eQ _ h1,h2⟩
theorem OC{m:List ((Int×Int)×PItem)}{x:PItem}(hm:∀e,e∈m→vR e.2)(h1:nl x=true)(h2:nL x):∀e,e∈jF m x→vR e.2:=by
  unfold jF
  split
  · rename_i h
    simp only[aO]at h
    have hl:=ae h.1.2
    have hy:gD x.by_ 0∈x.by_:=fp (by simp only[oN]at hl;omega)
    intro e he
    rcases GY he with q|q
    · exact hm e q
    · rw[q];exact QF (Y1 h2 hy) (Y2 h1 hy)
  · exact hm
theorem Dc:∀(xs:List PItem)(m:List ((Int×Int)×PItem)),(∀e,e∈m→vR e.2)→(∀x,x∈xs→nl x=true∧nL x)→∀e,e∈xs.foldl jF m→vR e.2
  |[],_,hm,_=>hm
  |x::r,m,hm,h=>Dc r (jF m x) (OC hm (h x (eG ..)).1 (h x (eG ..)).2) fun y hy=>h y (eQ _ hy)
theorem Db:∀(l:List PAct)(m:List ((Int×Int)×PItem)),(∀e,e∈m→vR e.2)→(∀a,a∈l→∀x,x∈a.items→nl x=true∧nL x)→∀e,e∈ar l m→vR e.2
  |[],_,hm,_=>hm
  |a::r,m,hm,h=>Db r (a.items.foldl jF m) (Dc a.items m hm (h a (eG ..))) fun b hb=>h b (eQ _ hb)
theorem A6(a:PAct):∀(l:List PItem)(i:Nat)(d:PDeed),d∈cZ a l i→d.it∈l
  |[],_,d,h=>by cases h
  | x::r,i,d,h=>by
    rcases ed.1 h with rfl|h
    · exact eG ..
    · exact eQ _ (A6 a r _ d h)
theorem OkG.deed{gs:List PGaz}(h:OkG gs){d:PDeed}(hd:d∈nE gs):vR d.it:=by
  have hi:∀a,a∈fJ gs→∀x,x∈a.items→nl x=true∧nL x:=fun a ha x hx=>⟨(h.act ha).2.1 x hx,(h.act ha).2.2.2 x hx⟩
  obtain⟨o,ho,rfl⟩:=fE.1 hd
  obtain⟨a,ha,hoa⟩:=List.mem_flatMap.1 ho
  have h1:=hi a ha _ (A6 a _ _ _ hoa)
  have h2:vR o.it:=QF h1.2 h1.1
  unfold l8
  split
  · rename_i hc
    have hc:=(ql.1 hc).1
    unfold rj at hc
    show vR (IG (ar (fJ gs) []) o)
    unfold IG
    cases q:mE pG (o.act,o.item) (ar (fJ gs) [])with
    |none=>rw[q]at hc;cases hc
    | some v=>
      obtain⟨e,e1,e2⟩:=Hv q
      have:=Db (fJ gs) [] (fun e he=>by cases he) hi e e1
      rw[e2]at this
      exact this
  · exact h2
/-- What is in force. -/
noncomputable def pE(day:Int)(p:aE)(gs:List PGaz):List PDeed:=onL day p (fJ gs) (nE gs)
noncomputable def jQ(day:Int)(p:aE)(gs:List PGaz):TUnit:=c8 qh (pE day p gs)
theorem OkG.force{gs:List PGaz}(h:OkG gs)(day:Int)(p:aE):(pE day p gs).length<2^30∧(∀d,d∈pE day p gs→vR d.it)∧kP 20 [iV day,.str p,.ls (gs.map bZ)] (.ls ((pE day p gs).map aU)):=by
  have hl:=h.lens
  have h1:(pE day p gs).length≤(nE gs).length:=List.length_filter_le ..
  exact⟨by omega,fun d hd=>h.deed (yC.1 hd).1,ZL gs _ _ day p (by omega) (by omega) h.all.1 h.all.2⟩
theorem OkG.book{gs:List PGaz}(h:OkG gs)(day:Int)(p:aE):kP 12 [iV day,.str p,.ls (gs.map bZ)] (eU (jQ day p gs)):=
  S5 gs day p _ (h.force day p).1 (h.force day p).2.1 (h.force day p).2.2
theorem OkG.okB{gs:List PGaz}(h:OkG gs)(day:Int)(p:aE):OkB (jQ day p gs):=Ik J6 (h.force day p).2.1
noncomputable abbrev XA(a i:Int):AV:=.agg [iV a,iV i]
theorem PC{xs ys:List AV}{n:Nat}(h:xs.length=n):((xs++ys).drop 0).take n=xs:=List.take_left' h


/-- What the law of steps asks of what it calls. -/
structure StpC(day:Int)(p:aE)(gs:List PGaz)(X:List PDeed)(bk:Nat→TUnit)(er:Nat→Int):Prop where
  b:∀k,k<X.length→kP 25 [iV day,.str p,XA (gD X k).act (gD X k).item,.ls (gs.map bZ)] (eU (bk k))
  t:∀k,k<X.length→kP 27 [iV day,.str p,XA (gD X k).act (gD X k).item,.ls (gs.map bZ)] (eU (bk (k+1)))
  h:∀k,k<X.length→kP 28 [iV day,.str p,XA (gD X k).act (gD X k).item,.ls (gs.map bZ)] (.bool (ak (er k) 0))
  a:∀k,k<X.length→kP 26 [eU (bk k),aU (gD X k)] (.tuple [eU (bk (k+1)),iV (er k)])
  s:∀k j,k=j→k≤X.length→kP 11 [eU (bk k),eU (bk j)] (.bool true)
  e:kP 12 [iV day,.str p,.ls (gs.map bZ)] (eU (bk X.length))
  o:kP 20 [iV day,.str p,.ls (gs.map bZ)] (.ls (X.map aU))
  z:kP 24 [] (eU (bk 0))
  l:X.length<2^30
def Nd(l:List PAct):Prop:=(l.map (·.number)).Nodup
theorem T0{out:List PAct}{a:PAct}(h:Nd out):Nd (jl out a):=by
  unfold jl
  cases q:gS a.number (out.map fun b=>(b.number,true))with
  |some v=>exact h
  | none=>
    unfold Nd
    rw[m0,tC]
    refine⟨h,by simp,fun x hx y hy=>?_⟩
    obtain⟨b,hb,rfl⟩:=fE.1 hx
    simp only[dl,wm,qo]at hy
    rw[hy];exact oI (out:=out) q b hb
theorem F0:∀(ys out:List PAct),Nd out→Nd (ys.foldl jl out)
  |[],_,h=>h
  |_::r,_,h=>F0 r _ (T0 h)
theorem DK:∀(gs:List PGaz)(out:List PAct),Nd out→Nd (bY gs out)
  |[],_,h=>h
  |g::r,_,h=>DK r _ (F0 g.acts _ h)
theorem Wn(gs:List PGaz):(fJ gs).Pairwise fun a b=>fk a b=true:=by
  have h1:=(uW jZ (bY gs []) [] .nil).2
  have h2:Nd (fJ gs):=((jI gs).map _).nodup_iff.2 (DK gs [] (by simp[Nd]))
  have h3:(fJ gs).Pairwise fun a b=>a.number≠b.number:=List.pairwise_map.1 h2
  refine(List.Pairwise.and h1 h3).imp fun{a b} h=>?_
  obtain⟨p,q⟩:=h
  rw[lh]
  rw[←Bool.not_eq_true,lh]at p
  omega
/-- The legal order of amendments. -/
def XY(d e:PDeed):Prop:=d.day<e.day∨(d.day=e.day∧(d.act<e.act∨(d.act=e.act∧d.item<e.item)))
theorem nD(a:PAct):∀(l:List PItem)(i:Nat),(cZ a l i).Pairwise XY∧∀d,d∈cZ a l i→d.act=a.number∧d.day=a.day∧Int.ofNat i≤d.item
  |[],_=>⟨.nil,fun _ h=>by cases h⟩
  | x::r,i=>by
    obtain⟨h1,h2⟩:=nD a r (i+1)
    refine⟨.cons (fun d hd=>?_) h1,fun d hd=>?_⟩
    · obtain⟨q1,q2,q3⟩:=h2 d hd
      exact .inr ⟨q2.symm,.inr ⟨q1.symm,by simp only[oN]at *;omega⟩⟩
    · rcases ed.1 hd with rfl|hd
      · exact⟨rfl,rfl,Int.le_refl _⟩
      · obtain⟨q1,q2,q3⟩:=h2 d hd
        exact⟨q1,q2,by simp only[oN]at *;omega⟩
theorem xE:∀(L:List PAct),(L.Pairwise fun a b=>fk a b=true)→(kH L).Pairwise XY
  |[],_=>.nil
  | a::r,h=>by
    cases h with
    | cons h1 h2=>
      rw[kH,B9,List.pairwise_append]
      refine⟨(nD a _ 0).1,xE r h2,fun d hd e he=>?_⟩
      obtain⟨b,hb,he⟩:=List.mem_flatMap.1 he
      have z:=(lh a b).1 (h1 b hb)
      obtain⟨p1,p2,_⟩:=(nD a _ 0).2 d hd
      obtain⟨q1,q2,_⟩:=(nD b _ 0).2 e he
      unfold XY;omega
theorem JI(m:tu)(d:PDeed):(l8 m d).act=d.act∧(l8 m d).item=d.item∧(l8 m d).day=d.day:=by
  unfold l8;split<;>exact⟨rfl,rfl,rfl⟩
theorem O7{gs:List PGaz}{a b:PAct}(ha:a∈fJ gs)(hb:b∈fJ gs)(e:a.number=b.number):a=b:=
  rb gs [] (fun _ _ h=>by cases h) a b ((jI gs).mem_iff.1 ha) ((jI gs).mem_iff.1 hb) e
end Go.Proofs.YtidehekfpcgelaaGreatDoor
