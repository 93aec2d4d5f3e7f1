/- Functions walked: what each of them answers, for Every change day is a breakpoint, both lists rise, and Next enumerates the change days: part 7. Conditions: those that each theorem names. -/
import Derived.Test.YtaepacpodblomaaGreatDoorH6
namespace Go.Proofs.YtaepacpodblomaaGreatDoor
open Go Go.Ev
noncomputable abbrev lD(ep:Nat)(out:List Int):AObj:=.row 1 true ep (out.map aj)
theorem wm:kP 46 [.nils] (.ls ((gT []).map aJ)):=(gG [] (by simp)).onArgs (.cons Le.nils .nil)
theorem Da{g:Int→Bool}{K:List Int}{x e:Nat}{S:List PSpan}(h:S=j5 g (K.drop (x-1)))(h1:1≤x)(h2:x<K.length)(hg:g (gD K (x-1))=true)(he:e=x+1):S=⟨gD K (x-1),gD K x⟩::j5 g (K.drop (e-1)):=by rw[h,B9 h1 h2,hg,he]
theorem Db{g:Int→Bool}{K:List Int}{x e:Nat}{S:List PSpan}(h:S=j5 g (K.drop (x-1)))(h1:1≤x)(h2:x<K.length)(hg:g (gD K (x-1))=false)(he:e=x+1):S=j5 g (K.drop (e-1)):=by rw[h,B9 h1 h2,hg,he]
theorem Yi:an (bc (pX []))=[]:=rC (by have z:=Ac [];exact Nat.le_zero.1 z)
theorem XV{A B x y:List PSpan}(h1:A=x)(h2:B=y):x++y=A++B:=by rw[h1,h2]
theorem RH{A B x:List PSpan}(h1:A=x)(h2:B=[]):x=A++B:=by rw[h1,h2,ec]
theorem Vt{A B y:List PSpan}(h1:A=[])(h2:B=y):y=A++B:=by rw[h1,h2];rfl
theorem TB{A r:List PSpan}{w:PSpan}(h:A=w::r)(hl:A.length≤1048577):r.length<2^30:=by rw[h,lC]at hl;omega
theorem SM{A B:List PSpan}{w v:PSpan}{r s:List PSpan}(h:A=w::r)(k:B=v::s)(hl:A.length≤1048577)(kl:B.length≤1048577):small (r.length+1+((v::s).map aJ).length) 16=true:=by
  rw[h,lC]at hl;rw[k,lC]at kl
  rw[lM,lC];refine dY (m:=2^31) ?_ ?_ ?_<;>omega
theorem J7{B:List PSpan}{v:PSpan}{s:List PSpan}(k:B=v::s)(kl:B.length≤1048577):small ((v::s).map aJ).length 16=true:=by
  rw[k,lC]at kl
  rw[lM,lC];refine dY (m:=2^31) ?_ ?_ ?_<;>omega
def RM(F:Nat)(A:List PSpan)(B:List PSpan)(z20:List PSpan):Prop:=z20=A++B
noncomputable def RL(F:Nat)(A:List PSpan)(B:List PSpan)(z20:List PSpan):List AV×List AObj:=([AV.ls (A.map aJ),AV.ls (B.map aJ),AV.func (Fn.func F) [] [],AV.nils,AV.ls (z20.map aJ),nV z20.length,iV 0],[])
def N2(F:Nat)(A:List PSpan)(B:List PSpan)(z20:List PSpan)(z37:List Int):Prop:=z37=iw z20
noncomputable def N1(F:Nat)(A:List PSpan)(B:List PSpan)(z20:List PSpan)(z37:List Int):List AV×List AObj:=([AV.ls (A.map aJ),AV.ls (B.map aJ),AV.func (Fn.func F) [] [],AV.ls (z37.map aj)],[])
def N0(F:Nat)(A:List PSpan)(B:List PSpan)(z20:List PSpan)(z37:List Int):Prop:=z37=iw z20
noncomputable def NT(F:Nat)(A:List PSpan)(B:List PSpan)(z20:List PSpan)(z37:List Int):List AV×List AObj:=([AV.ls (A.map aJ),AV.ls (B.map aJ),AV.func (Fn.func F) [] [],AV.ls (z37.map aj)],[])
theorem LC(F:Nat)(op:Bool→Bool→Bool)(hF:∀x y,bX Tryz.prog G F [.bool x,.bool y] (.bool (op x y)))(e0:op false false=false)(a b:List PSpan)(ha:a.length<2^30)(hb:b.length<2^30):
    bX Tryz.prog G 207 [.ls (a.map aJ),.ls (b.map aJ),.func (.func F) [] []] (.ls ((sQ op a b).map aJ)):=by
  have nA:=gG a ha
  have nB:=gG b hb
  have hA:=ku a
  have hB:=ku b
  have hd:=N3 e0 (a:=a) (b:=b) rfl rfl
  generalize gT a=A at *
  generalize gT b=B at *
  have lA:=hA.len
  have lB:=hB.len
  have hasA:∀d,bX Tryz.prog G 71 [.ls (A.map aJ),.int .i64 d] (.bool (gI A d)):=fun d=>JZ A d hA.sort (by omega)
  have hasB:∀d,bX Tryz.prog G 71 [.ls (B.map aJ),.int .i64 d] (.bool (gI B d)):=fun d=>JZ B d hB.sort (by omega)
  obtain⟨g,hg⟩:∃g:Int→Bool,g=fun d=>op (gI A d) (gI B d):=⟨_,rfl⟩
  have hgv:∀d v0,op (gI A d) (gI B d)=v0→g d=v0:=fun d v0 h=>by rw[hg];exact h
  rw[←hg]at hd
  have hcl:∀x,x=A++B→(iw x).length<2^30:=fun x hx=>by
    have z:=Ac x
    rw[hx,eX]at z
    rw[hx];omega
  have hll:∀x,x=A++B→x.length<2^22:=fun x hx=>by rw[hx,eX];omega
  obtain⟨res,hres⟩:∃res,res=sQ op a b:=⟨_,rfl⟩
  rw[←hres]at hd ⊢
  have hdone:∀x y z,x=A++B→y=iw x→j5 g y=z→gT z=res:=fun x y z h1 h2 h3=>by rw[←h3,h2,h1];exact hd
  clear hd hg hres hA hB
  have rr0 b' (h:(List.map aJ res)=b':=by first|rfl|exact hdone _ _ _ hz20 hz37 (by rw[hx1.2.2,kN hx1.1 (by(first|omega|(simp only[aP]at *;omega)))])|exact(hdone _ _ _ hz20 hz37 (by rw[hx1.2.2.2.2,kN hx1.1 (by(first|omega|(simp only[aP]at *;omega))),ec]))|(rw[hdone _ _ _ hz20 hz37 (by rw[hx1.2.2,kN hx1.1 (by(first|omega|(simp only[aP]at *;omega)))])])|(rw[hdone _ _ _ hz20 hz37 (by rw[hx1.2.2.2.2,kN hx1.1 (by(first|omega|(simp only[aP]at *;omega))),ec])])):=h;exact bH Tryz.func207<|Kp 1 nA<|Kp 0 nB<|Mg 2<|M0 .inn<|Mj (List PSpan) [0,1,2,7,20,21,22] (RL F A B) (RM F A B) (fun c=>Mg 0<|Mc A (fun e=>Ml 17 (fk<|by rw[e];rfl:Le (aW []) (aW (List.map aJ A)))<|Mz 17 (fun(_:([]:List AV)=[])=>Mg 1<|Mc B (fun e=>Ml 19 (fk<|by rw[e];rfl:Le (aW []) (aW (List.map aJ B)))<|Kl 0 20 bI<|Kf 1<|c [] (by exact RH (by assumption) (by assumption):[]=A++B)) fun e f i=>Ml 19 (fk<|by rw[i]:Le (aW (List.map aJ (e::f))) (aW (List.map aJ B)))<|M2 .apl (et (by exact pw _ _:List.map aJ (e::f)≠[])<|fM 2 aJ (e::f) fun _=>rfl) (by exact J7 (by assumption) lB:small (List.map aJ (e::f)).length 16=true)<|M2 (.fsl 0 [0,1,2,7] 20<|List.map aJ<|e::f) True.intro (ce (aU 0) (tA aJ (e::f) (List.map aJ<|e::f).length (by(simp only[cX,cO,eX];done):(e::f).length=(List.map aJ (e::f)).length))<|aX Vh<|e::f)<|Ml 20 (fg (List.map aJ<|e::f) false<|aX Vh<|e::f)<|Kl 0 21 (ln aJ<|e::f)<|Kf 0<|c (e::f) (by exact Vt (by assumption) (by assumption):e::f=A++B))<|Mg 1<|Mc B (fun e=>Ml 19 (fk<|by rw[e];rfl:Le (aW []) (aW (List.map aJ B)))<|Kl 0 20 (fg [] true (aU 0:aq ([])=0))<|Kf 1<|c [] (by exact RH (by assumption) (by assumption):[]=A++B)) fun e f i=>Ml 19 (fk<|by rw[i]:Le (aW (List.map aJ (e::f))) (aW (List.map aJ B)))<|M2 .apl (et (by exact pw _ _:List.map aJ (e::f)≠[])<|fM 2 aJ (e::f) fun _=>rfl) (by exact J7 (by assumption) lB:small (List.map aJ (e::f)).length 16=true)<|M2 (.fsl 0 [0,1,2,7] 20<|List.map aJ<|e::f) True.intro (ce (aU 0) (tA aJ (e::f) (List.map aJ<|e::f).length (by(simp only[cX,cO,eX];done):(e::f).length=(List.map aJ (e::f)).length))<|aX Vh<|e::f)<|Ml 20 (fg (List.map aJ<|e::f) false<|aX Vh<|e::f)<|Kl 0 21 (ln aJ<|e::f)<|Kf 0<|c (e::f) (by exact Vt (by assumption) (by assumption):e::f=A++B)) fun e f i=>Ml 17 (fk<|by rw[i]:Le (aW (List.map aJ (e::f))) (aW (List.map aJ A)))<|Me (Ro e f<|by exact TB (by assumption) lA)<|Mg 0<|Mc B (fun i=>Ml 19 (fk<|by rw[i];rfl:Le (aW []) (aW (List.map aJ B)))<|Mg 0<|M2 (.fsl 0 [0,1,2,7] 20<|List.map aJ<|e::f) True.intro (ce (aU 0) (tA aJ (e::f) (f.length+1) rfl)<|aX Vh<|e::f)<|Ml 20 (fg (List.map aJ<|e::f) false<|aX Vh<|e::f)<|Kl 0 21 (ln aJ<|e::f)<|Kf 0<|c (e::f) (by exact RH (by assumption) (by assumption):e::f=A++B)) fun i j k=>Ml 19 (fk<|by rw[k]:Le (aW (List.map aJ (i::j))) (aW (List.map aJ B)))<|M2 .apl (et (by exact pw _ _:List.map aJ (i::j)≠[])<|fM 2 aJ (i::j) fun _=>rfl) (ce (aU 0) (by(simp only[cX,cO,eX];done):f.length+1=(List.map aJ (e::f)).length) (by exact SM (by assumption) (by assumption) lA lB:small (f.length+1+(List.map aJ (i::j)).length) 16=true))<|M1 (.obj 0<|aZ 2 true (0+1)<|List.map aJ<|e::f++i::j) (congrArg (aZ 2 true<|0+1)<|dQ (f:=aJ) (l:=e::f) (ws:=i::j))<|M2 (.fsl 0 [0,1,2,7] 20<|List.map aJ<|e::f++i::j) True.intro (ce (aU<|0+1) (tA aJ (e::f++i::j) (f.length+1+(List.map aJ<|i::j).length) (by(simp only[cX,cO,eX];done):(e::f++i::j).length=f.length+1+(List.map aJ (i::j)).length))<|aX Vh<|e::f++i::j)<|Ml 20 (fg (List.map aJ<|e::f++i::j) false<|aX Vh<|e::f++i::j)<|Kl 0 21 (ln aJ<|e::f++i::j)<|Kf 0<|c (e::f++i::j) (by exact XV (by assumption) (by assumption):e::f++i::j=A++B)) fun c hz20=>have hz20:=hz20;kh Nat Nat (List Int) aJ c [0,1,2,7,20,21,22] (fun e _=>([aW<|A.map aJ,aW<|B.map aJ,bU (bY F) [] [],af,aW<|c.map aJ,nV c.length,nV e],[])) (fun e _ f i j=>([aW<|A.map aJ,aW<|B.map aJ,bU (bY F) [] [],aM 0 f 0 i none,aW<|c.map aJ,nV c.length,nV e],[aZ 1 true f<|j.map aj])) (fun e=>pX c=pX e) (fun e _ f i=>f=i.length∧(0:Nat)<i.length∧pX c=i++pX e) (by rfl) (fun _ _ _ _ _ e f=>Kh 0 e<|Kp 0 Gc<|Mj (List Int) [0,1,2,7] (N1 F A B c) (N2 F A B c) (fun e=>Kl 1 37 bI<|Kf 0<|e [] (by(unfold iw;rw[f];exact Yi.symm):[]=iw c)) fun e hz37=>have hz37:=hz37;have:=hz37▸hcl _ hz20;Mg 1<|Sy Nat Nat Nat (List PSpan) (1:Nat) [0,1,2,7,10,11] (fun c=>([aW<|A.map aJ,aW<|B.map aJ,bU (bY F) [] [],aW<|e.map aj,af,nV c],[])) (fun c f i j=>([aW<|A.map aJ,aW<|B.map aJ,bU (bY F) [] [],aW<|e.map aj,aM 0 f 0 i none,nV c],[aZ 2 true f<|j.map aJ])) (fun c=>(1:Nat)≤c∧c≤2^30∧j5 g e=j5 g (e.drop<|c-1)) (fun c _ f i=>(1:Nat)≤c∧c≤2^30∧f=i.length∧i.length<c∧j5 g e=i++j5 g (e.drop<|c-1)) (fun c=>2^31-c) (fun c _ _ _=>2^31-c) (by exact⟨au _,by omega,rfl⟩) (fun c hx1 f i=>have hx1:=hx1;have:=hx1.1;have:=hx1.2.1;Kl 2 40 (ln aj e)<|Ka 0 (Int.ofNat c) (Int.ofNat e.length) (fun _ _=>Kl 2 46 (BG c)<|Mx (bW aj (by(simp only[aP,cX,ky]at *;omega):c-1<(e).length))<|Kp 4 (hasA<|gD e<|c-1)<|Kp 1 (hasB<|gD e<|c-1)<|Mp (hF (gI A<|gD e<|c-1)<|gI B<|gD e<|c-1)<|Mb (op (gI A<|gD e<|c-1)<|gI B<|gD e<|c-1) (fun _=>Kx 3 (bW aj (by(simp only[aP,cX,ky]at *;omega):c<(e).length))<|Kl 6 43 (jU c)<|Kf 0<|i (c+1) 0 1 [PSpan.mk (gD e<|c-1)<|gD e c] (by exact⟨by(omega),by(simp only[aP]at *;omega),rfl,by(simp only[cO,gm];omega),Da hx1.2.2 hx1.1 (by(simp only[aP]at *;omega)) (hgv _ _ (by assumption)) rfl⟩)<|by(omega)) fun _=>Kl 1 43 (jU c)<|Kf 0<|f (c+1) (by exact⟨by(omega),by(simp only[aP]at *;omega),Db hx1.2.2 hx1.1 (by(simp only[aP]at *;omega)) (hgv _ _ (by assumption)) rfl⟩)<|by(omega)) fun _ _=>Kp 0 wm<|Kf 0<|cW<|rr0<|List.map aJ<|gT []) fun c i j k hx1 _ l=>have hx1:=hx1;have:=hx1.1;have:=hx1.2.1;Kl 2 40 (ln aj e)<|Ka 0 (Int.ofNat c) (Int.ofNat e.length) (fun _ _=>Kl 2 46 (BG c)<|Mx (bW aj (by(simp only[aP,cX,ky]at *;omega):c-1<(e).length))<|Kp 4 (hasA<|gD e<|c-1)<|Kp 1 (hasB<|gD e<|c-1)<|Mp (hF (gI A<|gD e<|c-1)<|gI B<|gD e<|c-1)<|Mb (op (gI A<|gD e<|c-1)<|gI B<|gD e<|c-1) (fun _=>Kx 3 (bW aj (by(simp only[aP,cX,ky]at *;omega):c<(e).length))<|K1 2 .app (ce (aU i) (by(rw[cX];first|exact f.1|exact hx1.2.2.1):j=(List.map aJ k).length) (by(refine dY (m:=2^31) ?_ ?_ ?_<;>first|omega|(simp only[cX,cO,eX,gm];omega)|(have z:=congrArg List.length f.2.2;rw[kY,eX]at z;have z9:=hll _ hz20;have z2:=f.1;first|omega|(simp only[cO,gm];omega))|(have z:=hx1.2.2.2.1;have z2:=hx1.2.2.1;have z3:=hx1.2.1;first|omega|(simp only[cO,gm];omega))):small (j+1) 16=true))<|M1 (.obj 0<|aZ 2 true (i+1)<|List.map aJ<|k++[PSpan.mk (gD e<|c-1)<|gD e c]) (congrArg (aZ 2 true<|i+1)<|dQ (f:=aJ) (l:=k) (ws:=[PSpan.mk (gD e<|c-1)<|gD e c]))<|Kl 2 43 (jU c)<|Kf 0<|l (c+1) (i+1) (j+1) (k++[PSpan.mk (gD e<|c-1)<|gD e c]) (by exact⟨by(omega),by(simp only[aP]at *;omega),by rw[eX,←hx1.2.2.1];rfl,by(have z:=hx1.2.2.2.1;simp only[eX,cO,gm];omega),by rw[hx1.2.2.2.2,Da rfl hx1.1 (by(simp only[aP]at *;omega)) (hgv _ _ (by assumption)) rfl];simp⟩)<|by(omega)) fun _=>Kl 1 43 (jU c)<|Kf 0<|l (c+1) i j k (by exact⟨by(omega),by(simp only[aP]at *;omega),hx1.2.2.1,by(have z:=hx1.2.2.2.1;omega),by rw[hx1.2.2.2.2,Db rfl hx1.1 (by(simp only[aP]at *;omega)) (hgv _ _ (by assumption)) rfl]⟩)<|by(omega)) fun _ _=>Mg 0<|M2 (.fsl 0 [] 66<|List.map aJ k) True.intro (ce (aU i) (tA aJ k j (by(omega):(k).length=j))<|aX Vh k)<|Ml 66 (fg (List.map aJ k) false<|aX Vh k)<|Mp (gG k<|by(omega))<|Kf 0<|cW<|rr0<|List.map aJ<|gT k) (fun e _ _ _ f i _ j _ k _ l n=>have:=hll _ hz20;Kt 0 k<|Mx l<|Kl 11 33 (jU e)<|Mg 0<|M0 (.ren [1,0] [] [0,1,2,7,20,21,22])<|M1 (.frz 1 [0,1,2,7,20,21,22]) (et (aU true) True.intro)<|Mf<|j 0 2 [f.from_,f.to]<|by exact⟨rfl,by simp,by rw[n];rfl⟩) (fun _ _ e f i _ _ _ j k=>Kh 0 j<|Ke 0 (I7 i e f (by(omega)) (by(omega))<|by(have z:=congrArg List.length k.2.2;rw[kY,eX]at z;have z9:=hll _ hz20;omega))<|Mj (List Int) [0,1,2,7] (NT F A B c) (N0 F A B c) (fun j=>Ke 0 (Bv (bc i) e f (by(rw[(je _).length_eq];first|exact k.1|exact k.2.1|(have z:=congrArg List.length k.2.2;rw[kY,eX]at z;have z9:=hll _ hz20;omega))) (by(rw[(je _).length_eq];first|exact k.1|exact k.2.1|(have z:=congrArg List.length k.2.2;rw[kY,eX]at z;have z9:=hll _ hz20;omega)))<|by(rw[(je _).length_eq];first|exact k.1|exact k.2.1|(have z:=congrArg List.length k.2.2;rw[kY,eX]at z;have z9:=hll _ hz20;omega)))<|M2 (.fsl 0 [0,1,2] 37<|List.map aj<|List.take (an<|bc i).length<|an (bc i)++List.replicate ((bc i).length -(an<|bc i).length) 0) True.intro (ce (aU e) (yn (f:=aj) (l:=an (bc i)++List.replicate ((bc i).length -(an<|bc i).length) 0) (n:=(an<|bc i).length))<|aX Jc<|List.take (an<|bc i).length<|an (bc i)++List.replicate ((bc i).length -(an<|bc i).length) 0)<|Ml 37 (fg (List.map aj<|List.take (an<|bc i).length<|an (bc i)++List.replicate ((bc i).length -(an<|bc i).length) 0) false<|aX Jc<|List.take (an<|bc i).length<|an (bc i)++List.replicate ((bc i).length -(an<|bc i).length) 0)<|Kf 0<|j (List.take (an<|bc i).length<|an (bc i)++List.replicate ((bc i).length -(an<|bc i).length) 0) (by(unfold iw;rw[k.2.2];simp[pX]):List.take (an (bc i)).length (an (bc i)++List.replicate ((bc i).length -(an (bc i)).length) (0:Int))=iw c)) fun e hz37=>have hz37:=hz37;have:=hz37▸hcl _ hz20;Mg 1<|Sy Nat Nat Nat (List PSpan) (1:Nat) [0,1,2,7,10,11] (fun c=>([aW<|A.map aJ,aW<|B.map aJ,bU (bY F) [] [],aW<|e.map aj,af,nV c],[])) (fun c f i j=>([aW<|A.map aJ,aW<|B.map aJ,bU (bY F) [] [],aW<|e.map aj,aM 0 f 0 i none,nV c],[aZ 2 true f<|j.map aJ])) (fun c=>(1:Nat)≤c∧c≤2^30∧j5 g e=j5 g (e.drop<|c-1)) (fun c _ f i=>(1:Nat)≤c∧c≤2^30∧f=i.length∧i.length<c∧j5 g e=i++j5 g (e.drop<|c-1)) (fun c=>2^31-c) (fun c _ _ _=>2^31-c) (by exact⟨au _,by omega,rfl⟩) (fun c hx1 f i=>have hx1:=hx1;have:=hx1.1;have:=hx1.2.1;Kl 2 40 (ln aj e)<|Ka 0 (Int.ofNat c) (Int.ofNat e.length) (fun _ _=>Kl 2 46 (BG c)<|Mx (bW aj (by(simp only[aP,cX,ky]at *;omega):c-1<(e).length))<|Kp 4 (hasA<|gD e<|c-1)<|Kp 1 (hasB<|gD e<|c-1)<|Mp (hF (gI A<|gD e<|c-1)<|gI B<|gD e<|c-1)<|Mb (op (gI A<|gD e<|c-1)<|gI B<|gD e<|c-1) (fun _=>Kx 3 (bW aj (by(simp only[aP,cX,ky]at *;omega):c<(e).length))<|Kl 6 43 (jU c)<|Kf 0<|i (c+1) 0 1 [PSpan.mk (gD e<|c-1)<|gD e c] (by exact⟨by(omega),by(simp only[aP]at *;omega),rfl,by(simp only[cO,gm];omega),Da hx1.2.2 hx1.1 (by(simp only[aP]at *;omega)) (hgv _ _ (by assumption)) rfl⟩)<|by(omega)) fun _=>Kl 1 43 (jU c)<|Kf 0<|f (c+1) (by exact⟨by(omega),by(simp only[aP]at *;omega),Db hx1.2.2 hx1.1 (by(simp only[aP]at *;omega)) (hgv _ _ (by assumption)) rfl⟩)<|by(omega)) fun _ _=>Kp 0 wm<|Kf 0<|cW<|rr0<|List.map aJ<|gT []) fun c f i j hx1 _ l=>have hx1:=hx1;have:=hx1.1;have:=hx1.2.1;Kl 2 40 (ln aj e)<|Ka 0 (Int.ofNat c) (Int.ofNat e.length) (fun _ _=>Kl 2 46 (BG c)<|Mx (bW aj (by(simp only[aP,cX,ky]at *;omega):c-1<(e).length))<|Kp 4 (hasA<|gD e<|c-1)<|Kp 1 (hasB<|gD e<|c-1)<|Mp (hF (gI A<|gD e<|c-1)<|gI B<|gD e<|c-1)<|Mb (op (gI A<|gD e<|c-1)<|gI B<|gD e<|c-1) (fun _=>Kx 3 (bW aj (by(simp only[aP,cX,ky]at *;omega):c<(e).length))<|K1 2 .app (ce (aU f) (by(rw[cX];first|exact k.1|exact hx1.2.2.1):i=(List.map aJ j).length) (by(refine dY (m:=2^31) ?_ ?_ ?_<;>first|omega|(simp only[cX,cO,eX,gm];omega)|(have z:=congrArg List.length k.2.2;rw[kY,eX]at z;have z9:=hll _ hz20;have z2:=k.1;first|omega|(simp only[cO,gm];omega))|(have z:=hx1.2.2.2.1;have z2:=hx1.2.2.1;have z3:=hx1.2.1;first|omega|(simp only[cO,gm];omega))):small (i+1) 16=true))<|M1 (.obj 0<|aZ 2 true (f+1)<|List.map aJ<|j++[PSpan.mk (gD e<|c-1)<|gD e c]) (congrArg (aZ 2 true<|f+1)<|dQ (f:=aJ) (l:=j) (ws:=[PSpan.mk (gD e<|c-1)<|gD e c]))<|Kl 2 43 (jU c)<|Kf 0<|l (c+1) (f+1) (i+1) (j++[PSpan.mk (gD e<|c-1)<|gD e c]) (by exact⟨by(omega),by(simp only[aP]at *;omega),by rw[eX,←hx1.2.2.1];rfl,by(have z:=hx1.2.2.2.1;simp only[eX,cO,gm];omega),by rw[hx1.2.2.2.2,Da rfl hx1.1 (by(simp only[aP]at *;omega)) (hgv _ _ (by assumption)) rfl];simp⟩)<|by(omega)) fun _=>Kl 1 43 (jU c)<|Kf 0<|l (c+1) f i j (by exact⟨by(omega),by(simp only[aP]at *;omega),hx1.2.2.1,by(have z:=hx1.2.2.2.1;omega),by rw[hx1.2.2.2.2,Db rfl hx1.1 (by(simp only[aP]at *;omega)) (hgv _ _ (by assumption)) rfl]⟩)<|by(omega)) fun _ _=>Mg 0<|M2 (.fsl 0 [] 66<|List.map aJ j) True.intro (ce (aU f) (tA aJ j i (by(omega):(j).length=i))<|aX Vh j)<|Ml 66 (fg (List.map aJ j) false<|aX Vh j)<|Mp (gG j<|by(omega))<|Kf 0<|cW<|rr0<|List.map aJ<|gT j) fun e _ f i j _ _ k l _ n _ o _ p q=>have:=hll _ hz20;Kt 0 o<|Mx p<|K1 8 .app (ce (aU f) (by(rw[cX];first|exact q.1|exact hx1.2.2.1):i=(List.map aj j).length) (by(refine dY (m:=2^31) ?_ ?_ ?_<;>first|omega|(simp only[cX,cO,eX,gm];omega)|(have z:=congrArg List.length q.2.2;rw[kY,eX]at z;have z9:=hll _ hz20;have z2:=q.1;first|omega|(simp only[cO,gm];omega))|(have z:=hx1.2.2.2.1;have z2:=hx1.2.2.1;have z3:=hx1.2.1;first|omega|(simp only[cO,gm];omega))):small (i+2) 8=true))<|M1 (.obj 0<|aZ 1 true (f+1)<|List.map aj<|j++[k.from_,k.to]) (congrArg (aZ 1 true<|f+1)<|dQ (f:=aj) (l:=j) (ws:=[k.from_,k.to]))<|Kl 1 33 (jU e)<|K1 0 (.frz 1 [0,1,2,7,20,21,22]) (et (tR 1 true (f+1) 1<|aX Jc<|j++[k.from_,k.to]) True.intro)<|Mf<|n (f+1) (i+2) (j++[k.from_,k.to])<|by exact⟨by rw[eX,←q.1];rfl,by simp,by rw[q.2.2,CN];simp⟩
theorem V8(x y:Bool):kP 208 [.bool x,.bool y] (.bool (x||y)):=by
  have rr0 b' (h:(x||y)=b':=by simp only[aS,ak,bS, *]):=h;exact bH Tryz.func208<|Kb 2 x (fun a=>MV a<|Ky 0<|rr0 true) fun a=>Kw 0 a<|Ky 0<|rr0 y
theorem U1(x y:Bool):kP 209 [.bool x,.bool y] (.bool (x&&y)):=by
  have rr0 b' (h:(x&&y)=b':=by simp only[aS,ak,bS, *]):=h;exact bH Tryz.func209<|Kb 2 x (fun a=>Ku 0 a<|Ky 0<|rr0 y) fun a=>My a<|Ky 0<|rr0 false
theorem OE(a b:List PSpan)(ha:a.length<2^30)(hb:b.length<2^30):kP 147 [.ls (a.map aJ),.ls (b.map aJ)] (.ls ((sQ (· || ·) a b).map aJ)):=by
  have h:=LC 208 (· || ·) V8 rfl a b ha hb
  exact bH Tryz.func147<|Kp 2 h<|Kf 0<|bi<|aW<|(sQ (fun c d=>c||d) a b).map aJ
theorem Qb(a b:List PSpan)(ha:a.length<2^30)(hb:b.length<2^30):kP 150 [.ls (a.map aJ),.ls (b.map aJ)] (.ls ((sQ (· && ·) a b).map aJ)):=by
  have h:=LC 209 (· && ·) U1 rfl a b ha hb
  exact bH Tryz.func150<|Kp 2 h<|Kf 0<|bi<|aW<|(sQ (fun c d=>c&&d) a b).map aJ
noncomputable def og(a:List PSpan)(d:Int):List PSpan:=sQ (· && ·) a [⟨0,d⟩]
noncomputable def po(a:List PSpan)(d:Int):List PSpan:=sQ (· || ·) (og a d) [⟨d,1048577⟩]
theorem sK(a:List PSpan)(d:Int):NrmS (og a d):=zx _
theorem uq(a:List PSpan)(d:Int):NrmS (po a d):=zx _
theorem FW(a:List PSpan)(d:Int)(ha:a.length<2^30):kP 122 [.ls (a.map aJ),iV d] (.ls ((og a d).map aJ)):=by
  have h:kP 150 [.ls (a.map aJ),.ps [aJ ⟨0,d⟩] true] (.ls ((og a d).map aJ)):=(Qb a [⟨0,d⟩] ha (by simp)).onArgs (.cons (Le.refl _) (.cons (Le.ps _ _ rfl) .nil))
  exact bH Tryz.func122<|Kp 4 h<|Kf 0<|bi<|aW<|(og a d).map aJ
theorem Q9(a:List PSpan)(d:Int)(ha:a.length<2^30):kP 120 [.ls (a.map aJ),iV d] (.ls ((po a d).map aJ)):=by
  have h0:=FW a d ha
  have hl:=(sK a d).len
  have h:kP 147 [.ls ((og a d).map aJ),.ps [aJ ⟨d,1048577⟩] true] (.ls ((po a d).map aJ)):=(OE (og a d) [⟨d,1048577⟩] (by omega) (by simp)).onArgs (.cons (Le.refl _) (.cons (Le.ps _ _ rfl) .nil))
  exact bH Tryz.func120<|Kp 2 h0<|Kp 2 h<|Kf 0<|bi<|aW<|(po a d).map aJ
noncomputable def rS(k:Int):Bool:=ah k 7||ah k 9
noncomputable def kE(k:Int):Bool:=rS k||ah k 8
noncomputable def rE(k:Int):AV:=match rS k with|true=>.func (.func 120) [] []|false=>match ah k 8 with|true=>.func (.func 122) [] []|false=>.nilf
theorem zh(k:Int):dZ (some .nilf) true (bQ false 1 [(0,1)] (iV k) [⟨iV 7,.func (.func 120) [] [],0⟩,⟨iV 9,.func (.func 120) [] [],1⟩,⟨iV 8,.func (.func 122) [] [],2⟩] 0)=some (.tuple [rE k,.bool (kE k)]):=by
  unfold rE kE rS
  simp only[bQ,qc,Jk,kc]
  cases h1:ah k 7<;>cases h2:ah k 9<;>cases h3:ah k 8<;>rfl
theorem ON{k:Int}(h:rS k=true):Le (.func (.func 120) [] []) (rE k):=by unfold rE;rw[h];exact Le.refl _
theorem SA{k:Int}(h:rS k=false)(h2:kE k=true):Le (.func (.func 122) [] []) (rE k):=by
  unfold kE at h2;rw[h,Bool.false_or]at h2
  unfold rE;rw[h,h2];exact Le.refl _
noncomputable def OO:List AEnt:=[⟨iV 7,.func (.func 120) [] [],0⟩,⟨iV 9,.func (.func 120) [] [],1⟩,⟨iV 8,.func (.func 122) [] [],2⟩]
theorem Ss(x:PItem):kD 90 [] (av [.row 25 false 0 [eI x]]) (.map 1) (av [.row 25 false 0 [eI x],.map OO 3]):=by
  exact eV Tryz.func90 fun a=>Kf 6 a
theorem Su(s:PStart)(d o:PDeed):kD 90 [] (av [.row 3 false 0 [aw s],.row 28 false 0 [aY d],.row 28 false 0 [aY o]]) (.map 3) (av [.row 3 false 0 [aw s],.row 28 false 0 [aY d],.row 28 false 0 [aY o],.map OO 3]):=by
  exact eV Tryz.func90 fun a=>Kf 6 a
noncomputable def qS(x:PItem)(a i:Int):Bool:=ah x.act a&&(match ah x.kind 11 with|true=>ah x.item i|false=>kE x.kind&&(ah x.item i||ah x.item (-1)))
theorem MC(x:PItem)(a i:Int):kP 91 [eI x,iV a,iV i] (.bool (qS x a i)):=by
  have hlk:=zh
  have rr0 b' (h:(qS x a i)=b':=by unfold qS;generalize ah x.act a=p1 at *;generalize ah x.kind 11=p2 at *;generalize ah x.item i=p3 at *;generalize ah x.item (-1)=p4 at *;generalize kE x.kind=p5 at *;simp only[aS,ak,bS, *]):=h;let q:=[ab [iV x.kind,aW (x.at_.map az),aW (x.to.map az),iV x.where_,iV x.nth_,iV x.unit.act,iV x.unit.item,iV x.unit.n,iV x.unit.kind,ax x.unit.label,aW (x.unit.head.map aQ),aW (x.unit.words.map aQ),aW (x.unit.kids.map aK),aW (x.old.map mN),aW (x.new.map mN),ax x.label,ax x.for_,iV x.start.kind,iV x.start.day,ax x.start.event,iV x.act,iV x.item,iV x.day,ax x.event,aW (x.by_.map NG)]];let q1:=bU (bY 120) [] [];exact bH Tryz.func91<|Kc 5 x.act a (fun _ _=>Ky 0<|rr0 false) fun _ _=>Kj 2 x.kind 11 (fun _ _=>Kf 4<|cb<|rr0<|ah x.item i) fun _ _=>M3 (.efx true (AV.map 1)<|av [aZ 25 false 0 q,AObj.map [AEnt.mk (iV 7) q1 0,AEnt.mk (iV 9) q1 1,AEnt.mk (iV 8) (bU (bY 122) [] []) 2] 3]) (et rt ti) (et (aU<|some<|aZ 25 false 0 q) ti) (Ss x)<|K1 1 (.look<|bO [rE x.kind,dT<|kE x.kind]) (hlk x.kind)<|Kb 6 (kE x.kind) (fun b=>Kt 0 b<|Kt 0 b<|Kt 0 b<|Kt 0 b<|Kj 0 x.item i (fun c _=>Mt c<|Mt c<|Mt b<|MV c<|MV b<|Ky 0<|rr0 true) fun c _=>Kh 0 c<|Kh 0 c<|Kt 0 b<|My c<|MV b<|Kf 0<|cb<|rr0<|ah x.item (-1)) fun b=>Mh b<|Mh b<|Mh b<|Mh b<|Mh b<|My b<|Ky 0<|rr0 false
noncomputable abbrev eQ(nm:aO):AObj:=.row 1 false 0 [.str nm]
noncomputable def r9(nm:aO)(d:PDeed):Bool:=ah d.it.kind 10&&eJ d.it.event nm
theorem RZ(nm:aO)(d:PDeed):kD 149 [aY d,.ptr 0 0 0 0] (av [eQ nm]) (.bool (r9 nm d)) (av [eQ nm]):=by
  let q:=av [aZ 1 false 0 [ax nm]];exact Oj Tryz.func149<|Kj 6 d.it.kind 10 (fun a _=>Kt 0 a<|Kt 0 a<|Kt 0 a<|Kt 0 a<|Ku 0 a<|K1 0 (.frz 1 [3]) (et rt ti)<|Mf<|et (by unfold r9;generalize ah d.it.kind 10=p1 at *;generalize eJ d.it.event nm=p2 at *;simp only[aS,ak,bS, *]:(AV.bool (eJ d.it.event nm))=(AV.bool (r9 nm d)))<|aU q) fun a _=>Mh a<|Mh a<|Mh a<|Mh a<|My a<|K1 0 (.frz 1 [3]) (et rt ti)<|Mf<|et (by unfold r9;generalize ah d.it.kind 10=p1 at *;generalize eJ d.it.event nm=p2 at *;simp only[aS,ak,bS, *]:(AV.bool false)=(AV.bool (r9 nm d)))<|aU q
noncomputable def jJ(nm:aO):List PDeed→Nat→Int
  |[],_=> -1
  |d::r,i=>match r9 nm d with|true=>Int.ofNat i|false=>jJ nm r (i+1)
theorem Lz(nm:aO):∀(l:List PDeed)(i:Nat),jJ nm l i<Int.ofNat (i+l.length)∧(0≤jJ nm l i∨jJ nm l i= -1)
  |[],i=>⟨by simp only[jJ,oN];omega,.inr rfl⟩
  | d::r,i=>by
    have:=Lz nm r (i+1)
    cases h:r9 nm d<;>simp only[jJ,h,oN,lC]at * <;>omega
theorem Yk{nm:aO}{d:PDeed}{r:List PDeed}{i:Nat}(h:r9 nm d=true):jJ nm (d::r) i=Int.ofNat i:=by simp only[jJ,h]
theorem Yw{nm:aO}{d:PDeed}{r:List PDeed}{i:Nat}(h:r9 nm d=false):jJ nm (d::r) i=jJ nm r (i+1):=by simp only[jJ,h]
theorem Cp(nm:aO)(l:List PDeed)(hl:l.length<2^40):kD 148 [.ls (l.map aY),.func (.func 149) [] [.ptr 0 0 0 0]] (av [eQ nm]) (iV (jJ nm l 0)) (av [eQ nm]):=by
  let q:=av [aZ 1 false 0 [ax nm]];exact Oj Tryz.func148<|Kl 2 7 (ln aY l)<|Mg 0<|vP aY l [0,1,7,8] (fun a _=>([aW<|l.map aY,bU (bY 149) [] [bz 0 0 0 0],nV l.length,nV a],[aZ 1 false 0 [ax nm]])) (fun a=>jJ nm l (0:Nat)=jJ nm a (l.length-a.length)) (by(rw[Nat.sub_self])) (fun _ _ _ _ _ a b=>Kh 0 a<|Kf 0<|et (by(rw[b];rfl):(iV (-1))=(iV (jJ nm l 0)))<|aU q) fun a _ b _ c d e f g _ h i=>have:=fS b f;Kt 0 g<|Kx 4 h<|Ke 0 (RZ nm c)<|Mb (r9 nm c) (fun _=>Kf 1<|et (by(rw[i,Yk (by assumption)];congr 2;have z:=Ie (b.trans f) (by simp) (by simp only[lC];omega:(l.length-(d.length+1))+(c::d).length=l.length);exact z):(nV a)=(iV (jJ nm l 0)))<|aU q) fun _=>Kl 0 18 (dV a)<|Kf 0<|e<|by(rw[i,Yw (by assumption)];congr 1;have:=fS b f;simp only[lC];omega)
theorem RQ(d:Int):kP 120 [.nils,iV d] (.ls ((po [] d).map aJ)):=(Q9 [] d (by simp)).onArgs (.cons Le.nils (.cons (Le.refl _) .nil))
theorem Jx(nm:aO)(l:List PDeed)(hl:l.length<2^40)(h:ap (jJ nm l 0) 0=true):kP 121 [.str nm,.ls (l.map aY)] (.tuple [iV 0,.bool false]):=by
  exact bH Tryz.func121<|Ke 4 (Cp nm l hl)<|Kt 2 h<|Kf 1<|bi<|bO [iV 0,dT false]
theorem Jj(nm:aO)(l:List PDeed)(hl:l.length<2^40)(h:ap (jJ nm l 0) 0=false):kP 121 [.str nm,.ls (l.map aY)] (.tuple [iV (gD l (jJ nm l 0).toNat).it.day,.bool true]):=by
  have g1:=aE h
  have g2:=(Lz nm l 0).1
  exact bH Tryz.func121<|Ke 4 (Cp nm l hl)<|Kh 2 h<|Kl 1 13 (A4 (x:=jJ nm l 0) oA)<|Mx (bW aY (by(simp only[oN,lM,lS]at *;omega):(jJ nm l 0).toNat<(l).length))<|Kf 4<|bi<|bO [iV (gD l (jJ nm l 0).toNat).it.day,dT true]
noncomputable def lW(s:PStart)(l:List PDeed):List PSpan:=match ah s.kind 1 with|true=>po [] s.day|false=>match ah s.kind 3 with|true=>(match ap (jJ s.event l 0) 0 with|true=>[]|false=>po [] (gD l (jJ s.event l 0).toNat).it.day)|false=>[]
theorem Nd(s:PStart)(l:List PDeed)(hl:l.length<2^40)(hi:ap (jJ s.event l 0) 0=true):kP 88 [aw s,.ls (l.map aY)] (.ls ((lW s l).map aJ)):=by
  have he:=Jx s.event l hl hi
  have e:lW s l=match ah s.kind 1 with|true=>po [] s.day|false=>[]:=(by unfold lW;rw[hi];cases ah s.kind 1<;>cases ah s.kind 3<;>rfl)
  rw[e]
  have rr0 b' (h:((match ah s.kind 1 with|true=>po [] s.day|false=>[]).map aJ)=b':=by generalize ah s.kind 1=p1 at *;(rw[h0]);try rfl):=h;exact bH Tryz.func88<|Kj 5 s.kind 1 (fun h0 _=>Kp 1 (RQ s.day)<|Kf 0<|cW<|rr0<|(po [] s.day).map aJ) fun h0 _=>Kj 1 s.kind 3 (fun _ _=>Kp 2 he<|Kf 7 (Le.lsn<|rr0 []:Le _ (af))) fun _ _=>Kf 0 (Le.lsn<|rr0 []:Le _ (af))
theorem Nf(s:PStart)(l:List PDeed)(hl:l.length<2^40)(hi:ap (jJ s.event l 0) 0=false):kP 88 [aw s,.ls (l.map aY)] (.ls ((lW s l).map aJ)):=by
  have he:=Jj s.event l hl hi
  have e:lW s l=match ah s.kind 1 with|true=>po [] s.day|false=>match ah s.kind 3 with|true=>po [] (gD l (jJ s.event l 0).toNat).it.day |false=>[]:=(by unfold lW;rw[hi])
  rw[e]
  have rr0 b' (h:((match ah s.kind 1 with|true=>po [] s.day|false=>match ah s.kind 3 with|true=>po [] (gD l (jJ s.event l 0).toNat).it.day |false=>[]).map aJ)=b':=by generalize ah s.kind 1=p1 at *;generalize ah s.kind 3=p3 at *;(rw[h0]);(first|rw[h1]|skip);try rfl):=h;exact bH Tryz.func88<|Kj 5 s.kind 1 (fun h0 _=>Kp 1 (RQ s.day)<|Kf 0<|cW<|rr0<|(po [] s.day).map aJ) fun h0 _=>Kj 1 s.kind 3 (fun h1 _=>Kp 2 he<|Kp 7 (RQ (gD l (jJ s.event l 0).toNat).it.day)<|Kf 0<|cW<|rr0<|(po [] (gD l (jJ s.event l 0).toNat).it.day).map aJ) fun h1 _=>Kf 0 (Le.lsn<|rr0 []:Le _ (af))
theorem I9(s:PStart)(l:List PDeed)(hl:l.length<2^40):kP 88 [aw s,.ls (l.map aY)] (.ls ((lW s l).map aJ)):=by
  cases hi:ap (jJ s.event l 0) 0
  · exact Nf s l hl hi
  · exact Nd s l hl hi
noncomputable def sq(d o:PDeed)(days:List PSpan):List PSpan:=match kE o.it.kind&&qS o.it d.act d.item with|true=>(match rS o.it.kind with|true=>po days o.it.day|false=>og days o.it.day)|false=>days
noncomputable def lm(d:PDeed):List PDeed→List PSpan→List PSpan
  |[],days=>days
  |o::r,days=>lm d r (sq d o days)
noncomputable def ao(s:PStart)(d:PDeed)(l:List PDeed):List PSpan:=match ap d.it.kind 0||ap 6 d.it.kind with|true=>[]|false=>lm d l (lW (effS s d.it.start) l)
theorem Ng(s:PStart)(l:List PDeed):(lW s l).length≤1048577:=by
  have h:=fun d=>(uq [] d).len
  unfold lW
  cases ah s.kind 1<;>cases ah s.kind 3<;>cases ap (jJ s.event l 0) 0<;>simp only[lN]<;>first|exact h _|omega
theorem gJ(s:PStart)(d:PDeed)(l:List PDeed)(hl:l.length<2^40):kP 70 [aw s,aY d,.ls (l.map aY)] (.ls ((ao s d l).map aJ)):=by
  have hlk:=zh
  have hle1:∀k,rS k=true→Le (.func (.func 120) [] []) (rE k):=fun k h=>ON h
  have hle2:∀k,rS k=false→kE k=true→Le (.func (.func 122) [] []) (rE k):=fun k h h2=>SA h h2
  have hil:=Ng (effS s d.it.start) l
  have hin:∀b,(ap d.it.kind 0||ap 6 d.it.kind)=b→ao s d l=match b with|true=>[]|false=>lm d l (lW (effS s d.it.start) l):=fun b h=>by unfold ao;rw[h]
  have hst:∀(o:PDeed)(r:List PDeed)(days:List PSpan),lm d (o::r) days=lm d r (sq d o days):=fun o r days=>rfl
  have rr0 b' (h:((ao s d l).map aJ)=b':=by first|(rw[hin true (by simp only[aS,ak,bS, *];try rfl)];rfl)|(rw[hin false (by simp only[aS,ak,bS, *];try rfl)];first|exact congrArg _ hj0.2|exact congrArg _ hj0.2.symm|(rw[hj0.2];rfl))):=h;let q1:=[ab [iV d.act,iV d.item,iV d.day,iV d.it.kind,aW (d.it.at_.map az),aW (d.it.to.map az),iV d.it.where_,iV d.it.nth_,iV d.it.unit.act,iV d.it.unit.item,iV d.it.unit.n,iV d.it.unit.kind,ax d.it.unit.label,aW (d.it.unit.head.map aQ),aW (d.it.unit.words.map aQ),aW (d.it.unit.kids.map aK),aW (d.it.old.map mN),aW (d.it.new.map mN),ax d.it.label,ax d.it.for_,iV d.it.start.kind,iV d.it.start.day,ax d.it.start.event,iV d.it.act,iV d.it.item,iV d.it.day,ax d.it.event,aW (d.it.by_.map NG)]];let q2:=[ab [iV s.kind,iV s.day,ax s.event]];let q3:=bU (bY 120) [] [];exact bH Tryz.func70<|Ka 7 d.it.kind 0 (fun a _=>Mt a<|Mt a<|Mt a<|MV a<|Kf 1 (Le.lsn<|rr0 []:Le _ (af))) fun a _=>Kh 0 a<|Kh 0 a<|Kh 0 a<|Kw 0 a<|Mb (ap 6 d.it.kind) (fun a=>have:=am a;Kf 0 (Le.lsn<|rr0 []:Le _ (af))) fun a=>have:=aE a;Kp 3 (HU s d.it.start)<|Kp 0 (I9 (effS s d.it.start) l hl)<|Kl 2 30 (ln aY l)<|Mg 0<|U9 (0:Nat) l (lW (effS s d.it.start) l) [4,7,29,30,31] (fun a _ c=>([bz 1 0 0 0,aW<|c.map aJ,aW<|l.map aY,nV l.length,nV a],[aZ 3 false 0 [ab [iV s.kind,iV s.day,ax s.event]],aZ 28 false 0 [ab [iV d.act,iV d.item,iV d.day,iV d.it.kind,aW<|d.it.at_.map az,aW<|d.it.to.map az,iV d.it.where_,iV d.it.nth_,iV d.it.unit.act,iV d.it.unit.item,iV d.it.unit.n,iV d.it.unit.kind,ax d.it.unit.label,aW<|d.it.unit.head.map aQ,aW<|d.it.unit.words.map aQ,aW<|d.it.unit.kids.map aK,aW<|d.it.old.map mN,aW<|d.it.new.map mN,ax d.it.label,ax d.it.for_,iV d.it.start.kind,iV d.it.start.day,ax d.it.start.event,iV d.it.act,iV d.it.item,iV d.it.day,ax d.it.event,aW<|d.it.by_.map NG]]])) (fun a c e=>(l).drop a=c∧e.length≤1048577∧lm d l (lW (effS s d.it.start) l)=lm d c e) (fun _ a _=>a.length) (et rfl<|by(exact⟨hil,rfl⟩)) fun a c e f g=>Mc c (fun a=>have c:=eP f.1 a;have hj0:=gw (J:=fun a c=>c.length≤1048577∧lm d l (lW (effS s d.it.start) l)=lm d a c) (a:=e) a f.2;Kh 0 c<|Kf 1<|cW<|rr0<|e.map aJ) fun c i j=>let m:=[ab [iV c.act,iV c.item,iV c.day,iV c.it.kind,aW<|c.it.at_.map az,aW<|c.it.to.map az,iV c.it.where_,iV c.it.nth_,iV c.it.unit.act,iV c.it.unit.item,iV c.it.unit.n,iV c.it.unit.kind,ax c.it.unit.label,aW<|c.it.unit.head.map aQ,aW<|c.it.unit.words.map aQ,aW<|c.it.unit.kids.map aK,aW<|c.it.old.map mN,aW<|c.it.new.map mN,ax c.it.label,ax c.it.for_,iV c.it.start.kind,iV c.it.start.day,ax c.it.start.event,iV c.it.act,iV c.it.item,iV c.it.day,ax c.it.event,aW<|c.it.by_.map NG]];have n:=fY f.1 j;have:=am n;have p:=eO (enc:=aY) f.1 j;have hj0:=cq (J:=fun a c=>c.length≤1048577∧lm d l (lW (effS s d.it.start) l)=lm d a c) (a:=e) j f.2;Kt 0 n<|Mx p<|Mg 2<|M3 (.efx true (AV.map 3)<|av [aZ 3 false 0 q2,aZ 28 false 0 q1,aZ 28 false 0 m,AObj.map [AEnt.mk (iV 7) q3 0,AEnt.mk (iV 9) q3 1,AEnt.mk (iV 8) (bU (bY 122) [] []) 2] 3]) (jQ rt rt rt ti) (jQ (aU<|some<|aZ 28 false 0 m) (aU<|some<|aZ 28 false 0 q1) (aU<|some<|aZ 3 false 0 q2) ti) (Su s d c)<|K1 2 (.look<|bO [rE c.it.kind,dT<|kE c.it.kind]) (hlk c.it.kind)<|Kb 6 (kE c.it.kind) (fun m=>Kt 0 m<|Kt 0 m<|Kt 0 m<|Kt 0 m<|Kt 0 m<|Kt 0 m<|Mp (MC c.it d.act d.item)<|MV m<|Mb (qS c.it d.act d.item) (fun _=>Ks 4 (rS c.it.kind) (fun m=>Ml 53 (hle1 c.it.kind m)<|Mp (Q9 e c.it.day oA)<|Kl 1 59 (dV a)<|K1 0 (.frz 2 [4,7,29,30,31]) (ce rt rt ti)<|Mf<|g (a+1) i (po e c.it.day) (et (bK f.1 j)<|by exact⟨(uq _ _).len,by rw[hj0.2,hst];simp only[sq, *];rfl⟩)<|dn j) fun n=>Ml 53 (hle2 c.it.kind n m)<|Mp (FW e c.it.day oA)<|Kl 1 59 (dV a)<|K1 0 (.frz 2 [4,7,29,30,31]) (ce rt rt ti)<|Mf<|g (a+1) i (og e c.it.day) (et (bK f.1 j)<|by exact⟨(sK _ _).len,by rw[hj0.2,hst];simp only[sq, *];rfl⟩)<|dn j) fun _=>Kl 0 59 (dV a)<|K1 0 (.frz 2 [4,7,29,30,31]) (ce rt rt ti)<|Mf<|g (a+1) i e (et (bK f.1 j)<|by exact⟨hj0.1,by rw[hj0.2,hst];simp only[sq,aS,ak,bS, *];try rfl⟩)<|dn j) fun c=>Mh c<|Mh c<|Mh c<|Mh c<|Mh c<|Mh c<|My c<|Kl 1 59 (dV a)<|K1 0 (.frz 2 [4,7,29,30,31]) (ce rt rt ti)<|Mf<|g (a+1) i e (et (bK f.1 j)<|by exact⟨hj0.1,by rw[hj0.2,hst];simp only[sq,aS,ak,bS, *];try rfl⟩)<|dn j
noncomputable abbrev fG(d:Int):AObj:=.row 1 false 0 [iV d]
noncomputable abbrev qx:AObj:=.row 1 false 0 [.nils]
noncomputable abbrev pt(i ep n:Nat):AObj:=.row 1 false 0 [.slice i ep 0 n none]
noncomputable abbrev bh(m:List (Int×PStart)):AObj:=.map (aH aw m 0) m.length
noncomputable abbrev de(d:PDeed):AObj:=.row 28 false 0 [aY d]
noncomputable abbrev pm(ep:Nat)(l:List PDeed):AObj:=.row 28 true ep (l.map aY)
def dG:PStart:=⟨0,0,[]⟩
def aB(m:List (Int×PStart))(k:Int):PStart:=(dA k m).getD dG
theorem oR(m:List (Int×PStart))(k:Int):dZ (some (.agg [iV 0,iV 0,.str []])) false (bQ false 1 [(0,1)] (iV k) (aH aw m 0) 0)=some (aw (aB m k)):=by
  rw[sr]
  cases h:dA k m<;>simp only[aB,h,Option.getD]<;>rfl
theorem qN(m:List (Int×PStart))(a:PAct):nM (aH aw m 0) m.length (iV a.number) (.agg [iV a.start.kind,iV a.start.day,.str a.start.event]) (bQ false 1 [(0,1)] (iV a.number) (aH aw m 0) 0)=some (aH aw (cT a.number a.start m) 0,(cT a.number a.start m).length):=mJ (f:=aw) a.number a.start m
/-- The starts of the acts by their numbers. -/
def kM(l:List PAct)(m:List (Int×PStart)):List (Int×PStart):=l.foldl (fun m a=>cT a.number a.start m) m
theorem jG(s:PStart)(d:PDeed)(l:List PDeed):NrmS (ao s d l):=by
  have h1:∀(s:PStart),NrmS (lW s l):=fun s=>by
    unfold lW
    cases ah s.kind 1<;>cases ah s.kind 3<;>cases ap (jJ s.event l 0) 0<;>first|exact xI|exact uq _ _
  have h2:∀(r:List PDeed)(days:List PSpan),NrmS days→NrmS (lm d r days):=by
    intro r
    induction r with
    |nil=>intro days h;exact h
    | cons o r ih=>
      intro days h
      refine ih _ ?_
      unfold sq
      cases kE o.it.kind&&qS o.it d.act d.item<;>cases rS o.it.kind<;>first|exact h|exact uq _ _|exact sK _ _
  unfold ao
  cases ap d.it.kind 0||ap 6 d.it.kind
  · exact h2 l _ (h1 _)
  · exact xI
theorem sH(s:PStart)(d:PDeed)(l:List PDeed)(day:Int):kP 49 [.ls ((ao s d l).map aJ),iV day] (.bool (gI (ao s d l) day)):=by
  have hn:=jG s d l
  have h:=Hb (ao s d l) day (m9 hn.len (by decide))
  rwa[show gT (ao s d l)=ao s d l from(KP hn).symm]at h
/-- Whether an amendment is told: its purpose, its days. -/
noncomputable def WF(p:aO)(d:PDeed):Bool:=eJ d.it.for_ []||eJ d.it.for_ p
noncomputable def wi(day:Int)(p:aO)(m:List (Int×PStart))(ds:List PDeed)(d:PDeed):Bool:=WF p d&&gI (ao (aB m d.act) d ds) day
noncomputable def qz(day:Int)(p:aO)(m:List (Int×PStart))(ds l:List PDeed):List PDeed:=l.filter fun d=>ca d.it.kind&&wi day p m ds d
theorem Zg(d:PDeed)(ss:List PSpan)(day:Int)(p:aO)(m:List (Int×PStart))(hc:kP 49 [.ls (ss.map aJ),iV day] (.bool false)):kD 48 [aY d,.ls (ss.map aJ),.ptr 1 0 0 0,.ptr 0 0 0 0,.ptr 2 0 0 0] (av [fG day,eQ p,qx,bh m,de d]) (.tuple []) (av [fG day,eQ p,qx,bh m,de d]):=by
  exact eV Tryz.func48 fun a=>Kb 5 (eJ d.it.for_ (ByteArray.mk #[]).data.toList) (fun b=>Mt b<|Mt b<|Mt b<|Mt b<|MV b<|Kp 2 hc<|K1 1 (.frz 5 []) (vB rt (tM m.length 5<|aa (f:=aw) (fun _=>rfl) m 0) rt rt rt ti)<|Mf a) fun b=>Kh 0 b<|Kh 0 b<|Kh 0 b<|Kh 0 b<|Kw 0 b<|Kb 0 (eJ d.it.for_ p) (fun b=>Kt 0 b<|Kt 0 b<|Mp hc<|MV b<|K1 0 (.frz 5 []) (vB rt (tM m.length 5<|aa (f:=aw) (fun _=>rfl) m 0) rt rt rt ti)<|Mf a) fun b=>Mh b<|Mh b<|My b<|K1 0 (.frz 5 []) (vB rt (tM m.length 5<|aa (f:=aw) (fun _=>rfl) m 0) rt rt rt ti)<|Mf a
theorem Zf(d:PDeed)(ss:List PSpan)(day:Int)(p:aO)(m:List (Int×PStart))(h1:eJ d.it.for_ []=false)(h2:eJ d.it.for_ p=false):kD 48 [aY d,.ls (ss.map aJ),.ptr 1 0 0 0,.ptr 0 0 0 0,.ptr 2 0 0 0] (av [fG day,eQ p,qx,bh m,de d]) (.tuple []) (av [fG day,eQ p,qx,bh m,de d]):=by
  exact eV Tryz.func48 fun a=>Kh 5 h1<|Kh 0 h1<|Kh 0 h1<|Kh 0 h1<|Kh 0 h1<|Kw 0 h1<|Kh 0 h2<|Mh h2<|Mh h2<|My h2<|K1 0 (.frz 5 []) (vB rt (tM m.length 5<|aa (f:=aw) (fun _=>rfl) m 0) rt rt rt ti)<|Mf a
theorem Ze(d:PDeed)(ss:List PSpan)(day:Int)(p:aO)(m:List (Int×PStart))(hc:kP 49 [.ls (ss.map aJ),iV day] (.bool true))(h1:eJ d.it.for_ []=true):kD 48 [aY d,.ls (ss.map aJ),.ptr 1 0 0 0,.ptr 0 0 0 0,.ptr 2 0 0 0] (av [fG day,eQ p,qx,bh m,de d]) (.tuple []) (av [fG day,eQ p,pt 5 0 1,bh m,de d,pm 0 [d]]):=by
  exact eV Tryz.func48 fun a=>Kt 5 h1<|Mt h1<|Mt h1<|Mt h1<|Mt h1<|MV h1<|Kp 2 hc<|K1 6 (.ren [0,1,2,3,4,6,5] [3] []) (tN m.length<|aa (f:=aw) (fun _=>rfl) m 0)<|M1 (.frz 6 []) (EM rt rt (tM m.length 6<|aa (f:=aw) (fun _=>rfl) m 0) rt rt rt ti)<|Mf a
theorem Zd(d:PDeed)(ss:List PSpan)(day:Int)(p:aO)(m:List (Int×PStart))(hc:kP 49 [.ls (ss.map aJ),iV day] (.bool true))(h1:eJ d.it.for_ []=false)(h2:eJ d.it.for_ p=true):kD 48 [aY d,.ls (ss.map aJ),.ptr 1 0 0 0,.ptr 0 0 0 0,.ptr 2 0 0 0] (av [fG day,eQ p,qx,bh m,de d]) (.tuple []) (av [fG day,eQ p,pt 5 0 1,bh m,de d,pm 0 [d]]):=by
  exact eV Tryz.func48 fun a=>Kh 5 h1<|Kh 0 h1<|Kh 0 h1<|Kh 0 h1<|Kh 0 h1<|Kw 0 h1<|Kt 0 h2<|Kt 0 h2<|Kt 0 h2<|Mp hc<|MV h2<|K1 5 (.ren [0,1,2,3,4,6,5] [3] []) (tN m.length<|aa (f:=aw) (fun _=>rfl) m 0)<|M1 (.frz 6 []) (EM rt rt (tM m.length 6<|aa (f:=aw) (fun _=>rfl) m 0) rt rt rt ti)<|Mf a
theorem Zc(d:PDeed)(ss:List PSpan)(day:Int)(p:aO)(m:List (Int×PStart))(ep n:Nat)(out:List PDeed)(hc:kP 49 [.ls (ss.map aJ),iV day] (.bool false)):kD 48 [aY d,.ls (ss.map aJ),.ptr 1 0 0 0,.ptr 0 0 0 0,.ptr 2 0 0 0] (av [fG day,eQ p,pt 4 ep n,bh m,pm ep out,de d]) (.tuple []) (av [fG day,eQ p,pt 4 ep n,bh m,pm ep out,de d]):=by
  exact eV Tryz.func48 fun a=>Kb 5 (eJ d.it.for_ (ByteArray.mk #[]).data.toList) (fun b=>Mt b<|Mt b<|Mt b<|Mt b<|MV b<|Kp 2 hc<|K1 1 (.frz 6 []) (EM rt (tR 28 true ep 6<|aX xX out) (tM m.length 6<|aa (f:=aw) (fun _=>rfl) m 0) rt rt rt ti)<|Mf a) fun b=>Kh 0 b<|Kh 0 b<|Kh 0 b<|Kh 0 b<|Kw 0 b<|Kb 0 (eJ d.it.for_ p) (fun b=>Kt 0 b<|Kt 0 b<|Mp hc<|MV b<|K1 0 (.frz 6 []) (EM rt (tR 28 true ep 6<|aX xX out) (tM m.length 6<|aa (f:=aw) (fun _=>rfl) m 0) rt rt rt ti)<|Mf a) fun b=>Mh b<|Mh b<|My b<|K1 0 (.frz 6 []) (EM rt (tR 28 true ep 6<|aX xX out) (tM m.length 6<|aa (f:=aw) (fun _=>rfl) m 0) rt rt rt ti)<|Mf a
theorem Zb(d:PDeed)(ss:List PSpan)(day:Int)(p:aO)(m:List (Int×PStart))(ep n:Nat)(out:List PDeed)(h1:eJ d.it.for_ []=false)(h2:eJ d.it.for_ p=false):kD 48 [aY d,.ls (ss.map aJ),.ptr 1 0 0 0,.ptr 0 0 0 0,.ptr 2 0 0 0] (av [fG day,eQ p,pt 4 ep n,bh m,pm ep out,de d]) (.tuple []) (av [fG day,eQ p,pt 4 ep n,bh m,pm ep out,de d]):=by
  exact eV Tryz.func48 fun a=>Kh 5 h1<|Kh 0 h1<|Kh 0 h1<|Kh 0 h1<|Kh 0 h1<|Kw 0 h1<|Kh 0 h2<|Mh h2<|Mh h2<|My h2<|K1 0 (.frz 6 []) (EM rt (tR 28 true ep 6<|aX xX out) (tM m.length 6<|aa (f:=aw) (fun _=>rfl) m 0) rt rt rt ti)<|Mf a
theorem Za(d:PDeed)(ss:List PSpan)(day:Int)(p:aO)(m:List (Int×PStart))(ep n:Nat)(out:List PDeed)(hn:n=out.length)(hn2:n<2^20)(hc:kP 49 [.ls (ss.map aJ),iV day] (.bool true))(h1:eJ d.it.for_ []=true):kD 48 [aY d,.ls (ss.map aJ),.ptr 1 0 0 0,.ptr 0 0 0 0,.ptr 2 0 0 0] (av [fG day,eQ p,pt 4 ep n,bh m,pm ep out,de d]) (.tuple []) (av [fG day,eQ p,pt 4 (ep+1) (n+1),bh m,pm (ep+1) (out++[d]),de d]):=by
  exact eV Tryz.func48 fun a=>Kt 5 h1<|Mt h1<|Mt h1<|Mt h1<|Mt h1<|MV h1<|Kp 2 hc<|K1 4 .app (ce (aU ep) (by(rw[lM];exact hn):n=(out.map aY).length) (by exact dY (m:=2^21) (by omega) (by decide) (by decide):small (n+1) 392=true))<|M1 (.obj 4<|aZ 28 true (ep+1)<|(out++[d]).map aY) (congrArg (aZ 28 true<|ep+1)<|dQ (f:=aY) (l:=out) (ws:=[d]))<|K1 0 (.frz 6 []) (EM rt (tR 28 true (ep+1) 6<|aX xX<|out++[d]) (tM m.length 6<|aa (f:=aw) (fun _=>rfl) m 0) rt rt rt ti)<|Mf a
theorem Zy(d:PDeed)(ss:List PSpan)(day:Int)(p:aO)(m:List (Int×PStart))(ep n:Nat)(out:List PDeed)(hn:n=out.length)(hn2:n<2^20)(hc:kP 49 [.ls (ss.map aJ),iV day] (.bool true))(h1:eJ d.it.for_ []=false)(h2:eJ d.it.for_ p=true):kD 48 [aY d,.ls (ss.map aJ),.ptr 1 0 0 0,.ptr 0 0 0 0,.ptr 2 0 0 0] (av [fG day,eQ p,pt 4 ep n,bh m,pm ep out,de d]) (.tuple []) (av [fG day,eQ p,pt 4 (ep+1) (n+1),bh m,pm (ep+1) (out++[d]),de d]):=by
  exact eV Tryz.func48 fun a=>Kh 5 h1<|Kh 0 h1<|Kh 0 h1<|Kh 0 h1<|Kh 0 h1<|Kw 0 h1<|Kt 0 h2<|Kt 0 h2<|Kt 0 h2<|Mp hc<|MV h2<|K1 3 .app (ce (aU ep) (by(rw[lM];exact hn):n=(out.map aY).length) (by exact dY (m:=2^21) (by omega) (by decide) (by decide):small (n+1) 392=true))<|M1 (.obj 4<|aZ 28 true (ep+1)<|(out++[d]).map aY) (congrArg (aZ 28 true<|ep+1)<|dQ (f:=aY) (l:=out) (ws:=[d]))<|K1 0 (.frz 6 []) (EM rt (tR 28 true (ep+1) 6<|aX xX<|out++[d]) (tM m.length 6<|aa (f:=aw) (fun _=>rfl) m 0) rt rt rt ti)<|Mf a
theorem Vx{day:Int}{p:aO}{m:List (Int×PStart)}{ds:List PDeed}{d:PDeed}(h:wi day p m ds d=false):kP 49 [.ls ((ao (aB m d.act) d ds).map aJ),iV day] (.bool false)∨(eJ d.it.for_ []=false∧eJ d.it.for_ p=false):=by
  unfold wi WF at h
  have hz:=sH (aB m d.act) d ds day
  cases q:gI (ao (aB m d.act) d ds) day with
  |false=>rw[q]at hz;exact .inl hz
  |true=>rw[q,Bool.and_true,Bu]at h;exact .inr h
theorem Ps{day:Int}{p:aO}{m:List (Int×PStart)}{ds:List PDeed}{d:PDeed}(h:wi day p m ds d=true):kP 49 [.ls ((ao (aB m d.act) d ds).map aJ),iV day] (.bool true)∧(eJ d.it.for_ []=true∨(eJ d.it.for_ []=false∧eJ d.it.for_ p=true)):=by
  unfold wi WF at h
  obtain⟨h1,h2⟩:=pv.1 h
  have hz:=sH (aB m d.act) d ds day
  rw[h2]at hz
  refine⟨hz,?_⟩
  cases q:eJ d.it.for_ []with
  |true=>exact .inl rfl
  |false=>rw[q,Bool.false_or]at h1;exact .inr ⟨rfl,h1⟩
theorem X7(day:Int)(p:aO)(m:List (Int×PStart))(ds:List PDeed)(d:PDeed)(hb:wi day p m ds d=false):kD 48 [aY d,.ls ((ao (aB m d.act) d ds).map aJ),.ptr 1 0 0 0,.ptr 0 0 0 0,.ptr 2 0 0 0] (av [fG day,eQ p,qx,bh m,de d]) (.tuple []) (av [fG day,eQ p,qx,bh m,de d]):=by
  rcases Vx hb with h|⟨h1,h2⟩
  · exact Zg d _ day p m h
  · exact Zf d _ day p m h1 h2
theorem Zm(day:Int)(p:aO)(m:List (Int×PStart))(ds:List PDeed)(d:PDeed)(hb:By (wi day p m ds d) false):kD 48 [aY d,.ls ((ao (aB m d.act) d ds).map aJ),.ptr 1 0 0 0,.ptr 0 0 0 0,.ptr 2 0 0 0] (av [fG day,eQ p,qx,bh m,de d]) (.tuple []) (av [fG day,eQ p,qx,bh m,de d]):=X7 day p m ds d hb
theorem Zl(day:Int)(p:aO)(m:List (Int×PStart))(ds:List PDeed)(d:PDeed)(hb:By (wi day p m ds d) true):kD 48 [aY d,.ls ((ao (aB m d.act) d ds).map aJ),.ptr 1 0 0 0,.ptr 0 0 0 0,.ptr 2 0 0 0] (av [fG day,eQ p,qx,bh m,de d]) (.tuple []) (av [fG day,eQ p,pt 5 0 1,bh m,de d,pm 0 [d]]):=by
  obtain⟨h,h1|⟨h1,h2⟩⟩:=Ps hb
  · exact Ze d _ day p m h h1
  · exact Zd d _ day p m h h1 h2
theorem Zi(day:Int)(p:aO)(m:List (Int×PStart))(ds:List PDeed)(d:PDeed)(ep n:Nat)(out:List PDeed)(hb:By (wi day p m ds d) false):kD 48 [aY d,.ls ((ao (aB m d.act) d ds).map aJ),.ptr 1 0 0 0,.ptr 0 0 0 0,.ptr 2 0 0 0] (av [fG day,eQ p,pt 4 ep n,bh m,pm ep out,de d]) (.tuple []) (av [fG day,eQ p,pt 4 ep n,bh m,pm ep out,de d]):=by
  rcases Vx hb with h|⟨h1,h2⟩
  · exact Zc d _ day p m ep n out h
  · exact Zb d _ day p m ep n out h1 h2
theorem Zh(day:Int)(p:aO)(m:List (Int×PStart))(ds:List PDeed)(d:PDeed)(ep n:Nat)(out:List PDeed)(hb:By (wi day p m ds d) true)(hn:n=out.length)(hn2:n<2^20):kD 48 [aY d,.ls ((ao (aB m d.act) d ds).map aJ),.ptr 1 0 0 0,.ptr 0 0 0 0,.ptr 2 0 0 0] (av [fG day,eQ p,pt 4 ep n,bh m,pm ep out,de d]) (.tuple []) (av [fG day,eQ p,pt 4 (ep+1) (n+1),bh m,pm (ep+1) (out++[d]),de d]):=by
  obtain⟨h,h1|⟨h1,h2⟩⟩:=Ps hb
  · exact Za d _ day p m ep n out hn hn2 h h1
  · exact Zy d _ day p m ep n out hn hn2 h h1 h2
theorem FL{day:Int}{p:aO}{m:List (Int×PStart)}{ds r:List PDeed}{d:PDeed}(h:ca d.it.kind=false):qz day p m ds (d::r)=qz day p m ds r:=by simp only[qz,List.filter_cons,h,yx];rfl
theorem CU{day:Int}{p:aO}{m:List (Int×PStart)}{ds r:List PDeed}{d:PDeed}(h:wi day p m ds d=false):qz day p m ds (d::r)=qz day p m ds r:=by simp only[qz,List.filter_cons,h,wW];rfl
theorem FI{day:Int}{p:aO}{m:List (Int×PStart)}{ds r:List PDeed}{d:PDeed}(h:ca d.it.kind=true)(h2:wi day p m ds d=true):qz day p m ds (d::r)=d::qz day p m ds r:=by simp only[qz,List.filter_cons,h,h2];rfl
structure OnA(day:Int)(p:aO)(m:List (Int×PStart))(ds r:List PDeed):Prop where
  f:qz day p m ds ds=qz day p m ds r
structure OnR(day:Int)(p:aO)(m:List (Int×PStart))(ds r:List PDeed)(ep n:Nat)(out:List PDeed):Prop where
  len:n=out.length
  ep:ep+1=out.length
  small:out.length+r.length≤ds.length
  f:qz day p m ds ds=out++qz day p m ds r
theorem OnA.no{day:Int}{p:aO}{m:List (Int×PStart)}{ds r:List PDeed}{d:PDeed}(h:OnA day p m ds (d::r))(ha:ca d.it.kind=false):OnA day p m ds r:=⟨by rw[h.f,FL ha]⟩
theorem OnA.nil{day:Int}{p:aO}{m:List (Int×PStart)}{ds r:List PDeed}{d:PDeed}(h:OnA day p m ds (d::r))(hb:wi day p m ds d=false):OnA day p m ds r:=⟨by rw[h.f,CU hb]⟩
theorem OnA.new{day:Int}{p:aO}{m:List (Int×PStart)}{ds r:List PDeed}{d:PDeed}{n:Nat}(h:OnA day p m ds (d::r))(hl:(d::r).length≤ds.length)(ha:ca d.it.kind=true)(hb:wi day p m ds d=true)(hn:n=1):OnR day p m ds r 0 n [d]:=⟨hn,rfl,by simp only[lC,lN]at *;omega,by rw[h.f,FI ha hb];rfl⟩
theorem OnR.no{day:Int}{p:aO}{m:List (Int×PStart)}{ds r:List PDeed}{d:PDeed}{ep n:Nat}{out:List PDeed}(h:OnR day p m ds (d::r) ep n out)(ha:ca d.it.kind=false):OnR day p m ds r ep n out:=⟨h.len,h.ep,by have:=h.small;simp only[lC]at this;omega,by rw[h.f,FL ha]⟩
theorem OnR.nil{day:Int}{p:aO}{m:List (Int×PStart)}{ds r:List PDeed}{d:PDeed}{ep n:Nat}{out:List PDeed}(h:OnR day p m ds (d::r) ep n out)(hb:wi day p m ds d=false):OnR day p m ds r ep n out:=⟨h.len,h.ep,by have:=h.small;simp only[lC]at this;omega,by rw[h.f,CU hb]⟩
theorem OnR.new{day:Int}{p:aO}{m:List (Int×PStart)}{ds r:List PDeed}{d:PDeed}{ep n k:Nat}{out:List PDeed}(h:OnR day p m ds (d::r) ep n out)(ha:ca d.it.kind=true)(hb:wi day p m ds d=true)(hk:k=n+1):OnR day p m ds r (ep+1) k (out++[d]):=by
  have:=h.len;have:=h.ep;have:=h.small
  refine⟨?_,?_,?_,by rw[h.f,FI ha hb,nH];rfl⟩<;>simp only[lA,lC,lN]at * <;>omega
theorem OnR.done{day:Int}{p:aO}{m:List (Int×PStart)}{ds:List PDeed}{ep n:Nat}{out:List PDeed}(h:OnR day p m ds [] ep n out):ep=(qz day p m ds ds).length -1∧n=(qz day p m ds ds).length∧out=qz day p m ds ds:=by
  have e:qz day p m ds ds=out:=by rw[h.f];exact ec _
  have:=h.len;have:=h.ep
  rw[e];exact⟨by omega,by omega,rfl⟩
theorem Ic{α:Type}{l r:List α}{j:Nat}{a:α}(h:l.drop j=a::r):(a::r).length≤l.length:=by rw[←h,vT];omega
theorem Vj{day:Int}{p:aO}{m:List (Int×PStart)}{ds r:List PDeed}{d:PDeed}(h:qz day p m ds (d::r)=[])(ha:ca d.it.kind=true):wi day p m ds d=false:=by
  cases q:wi day p m ds d with
  |false=>rfl
  |true=>rw[FI ha q]at h;cases h
theorem XK(gs:List PGaz)(L:List PAct)(ds:List PDeed)(day:Int)(p:aO)(hL:L.length<10000)(hd:ds.length<100000)(ha:kP 67 [.ls (gs.map al)] (.ls (L.map ay)))(hi:kP 68 [.ls (gs.map al)] (.ls (ds.map aY)))(hE:qz day p (kM L []) ds ds=[]):
    kD 47 [.ls (gs.map al),.func (.func 48) [] [.ptr 1 0 0 0,.ptr 0 0 0 0,.ptr 2 0 0 0]] (av [fG day,eQ p,qx]) (.tuple []) (av [fG day,eQ p,qx]):=by
  have hlk:=oR
  have hup:=qN
  let q1:=[iV day];exact eV Tryz.func47 fun a=>Kp 2 ha<|Kl 0 13 (ln ay L)<|Mg 0<|H0 ay L ([]:List (Int×PStart)) [0,1,4,12,13,14] (fun a _ b=>([aW<|gs.map al,bU (bY 48) [] [bz 1 0 0 0,bz 0 0 0 0,bz 2 0 0 0],AV.map 3,aW<|L.map ay,nV L.length,nV a],[aZ 1 false 0 [iV day],aZ 1 false 0 [ax p],aZ 1 false 0 [af],AObj.map (aH aw b 0) b.length])) (fun a b=>kM L []=kM a b) (by rfl) (fun _ _ b _ _ _ c d=>Kh 0 c<|Kp 0 hi<|Kl 2 27 (ln aY ds)<|Mg 0<|U9 (0:Nat) ds () [1,4,7,26,27,28] (fun a _ _=>([bU (bY 48) [] [bz 1 0 0 0,bz 0 0 0 0,bz 2 0 0 0],AV.map 3,aW<|ds.map aY,aW<|ds.map aY,nV ds.length,nV a],[aZ 1 false 0 [iV day],aZ 1 false 0 [ax p],aZ 1 false 0 [af],AObj.map (aH aw b 0) b.length])) (fun a c _=>(ds).drop a=c∧qz day p b ds c=[]) (fun _ a _=>a.length) (et rfl<|by(rw[←show kM L []=b from d];exact hE)) fun c d e f g=>Mc d (fun c=>have d:=eP f.1 c;have:=gw (J:=fun a _=>qz day p b ds a=[]) (a:=e) c f.2;Kh 0 d<|M1 (.frz 3 []) (jQ rt rt rt ti)<|Mf a) fun a d h=>let i:=[ab [iV a.act,iV a.item,iV a.day,iV a.it.kind,aW<|a.it.at_.map az,aW<|a.it.to.map az,iV a.it.where_,iV a.it.nth_,iV a.it.unit.act,iV a.it.unit.item,iV a.it.unit.n,iV a.it.unit.kind,ax a.it.unit.label,aW<|a.it.unit.head.map aQ,aW<|a.it.unit.words.map aQ,aW<|a.it.unit.kids.map aK,aW<|a.it.old.map mN,aW<|a.it.new.map mN,ax a.it.label,ax a.it.for_,iV a.it.start.kind,iV a.it.start.day,ax a.it.start.event,iV a.it.act,iV a.it.item,iV a.it.day,ax a.it.event,aW<|a.it.by_.map NG]];have j:=fY f.1 h;have:=am j;have k:=eO (enc:=aY) f.1 h;have e:=cq (J:=fun a _=>qz day p b ds a=[]) (a:=e) h f.2;Kt 0 j<|Mx k<|Kp 5 (jv a.it.kind)<|Mb (ca a.it.kind) (fun _=>K1 4 (.look<|ab [iV (aB b a.act).kind,iV (aB b a.act).day,ax (aB b a.act).event]) (hlk b a.act)<|Kp 1 (gJ (aB b a.act) a ds<|by(omega))<|M3 (.efx true (bO [])<|av [aZ 1 false 0 q1,aZ 1 false 0 [ax p],aZ 1 false 0 [af],AObj.map (aH aw b 0) b.length,aZ 28 false 0 i]) (vB rt (tM b.length 5<|aa (f:=aw) (fun _=>rfl) b 0) rt rt rt ti) (vB (aU<|some<|aZ 28 false 0 i) (aU<|some<|AObj.map (aH aw b 0) b.length) (aU<|some<|aZ 1 false 0 [af]) (aU<|some<|aZ 1 false 0 [ax p]) (aU<|some<|aZ 1 false 0 q1) ti) (X7 day p b ds a<|by exact Vj e (by assumption))<|Kl 0 46 (dV c)<|K1 0 (.frz 4 [1,4,7,26,27,28]) (wR (tM b.length 4<|aa (f:=aw) (fun _=>rfl) b 0) rt rt rt ti)<|Mf<|g (c+1) d () (et (bK f.1 h)<|by(have z:=e;rw[CU (Vj z (by assumption))]at z;exact z))<|dn h) fun _=>Kl 0 46 (dV c)<|K1 0 (.frz 4 [1,4,7,26,27,28]) (wR (tM b.length 4<|aa (f:=aw) (fun _=>rfl) b 0) rt rt rt ti)<|Mf<|g (c+1) d () (et (bK f.1 h)<|by(have z:=e;rw[FL (by assumption)]at z;exact z))<|dn h) fun a _ b _ _ c d e _ f _ g h=>Kt 0 f<|Mx g<|K1 7 (.upd (aH aw (cT c.number c.start b) 0) (cT c.number c.start b).length) (hup b c)<|Kl 0 23 (dV a)<|K1 0 (.frz 4 [0,1,4,12,13,14]) (wR (tM (cT c.number c.start b).length 4<|aa (f:=aw) (fun _=>rfl) (cT c.number c.start b) 0) rt rt rt ti)<|Mf<|e (cT c.number c.start b)<|by exact h
def Hn(gs:List PGaz)(L:List PAct)(day:Int)(p:aO)(x0:Nat×List PAct×List (Int×PStart)):Prop:=(L).drop x0.1=x0.2.1∧kM L []=kM x0.2.1 x0.2.2
noncomputable def xY(gs:List PGaz)(L:List PAct)(day:Int)(p:aO)(x0:Nat×List PAct×List (Int×PStart)):List AV×List AObj:=([AV.ls (gs.map al),AV.func (Fn.func 48) [] [AV.ptr 1 0 0 0,AV.ptr 0 0 0 0,AV.ptr 2 0 0 0],AV.map 3,AV.ls (L.map ay),nV L.length,nV x0.1],[AObj.row 1 false 0 [iV day],AObj.row 1 false 0 [AV.str p],AObj.row 1 false 0 [AV.nils],AObj.map (aH aw x0.2.2 0) x0.2.2.length])
def Hm(ds:List PDeed)(day:Int)(p:aO)(x0:Nat×List PAct×List (Int×PStart))(x1:Nat×List PDeed×Unit):Prop:=(ds).drop x1.1=x1.2.1∧OnA day p x0.2.2 ds x1.2.1
noncomputable def xV(ds:List PDeed)(day:Int)(p:aO)(x0:Nat×List PAct×List (Int×PStart))(x1:Nat×List PDeed×Unit):List AV×List AObj:=([AV.func (Fn.func 48) [] [AV.ptr 1 0 0 0,AV.ptr 0 0 0 0,AV.ptr 2 0 0 0],AV.map 3,AV.ls (ds.map aY),AV.ls (ds.map aY),nV ds.length,nV x1.1],[AObj.row 1 false 0 [iV day],AObj.row 1 false 0 [AV.str p],AObj.row 1 false 0 [AV.nils],AObj.map (aH aw x0.2.2 0) x0.2.2.length])
def Hl(ds:List PDeed)(day:Int)(p:aO)(x0:Nat×List PAct×List (Int×PStart))(x1:Nat×List PDeed×Nat×Nat×List PDeed):Prop:=(ds).drop x1.1=x1.2.1∧OnR day p x0.2.2 ds x1.2.1 x1.2.2.1 x1.2.2.2.1 x1.2.2.2.2
noncomputable def Hi(ds:List PDeed)(day:Int)(p:aO)(x0:Nat×List PAct×List (Int×PStart))(x1:Nat×List PDeed×Nat×Nat×List PDeed):List AV×List AObj:=([AV.func (Fn.func 48) [] [AV.ptr 1 0 0 0,AV.ptr 0 0 0 0,AV.ptr 2 0 0 0],AV.map 3,AV.ls (ds.map aY),AV.ls (ds.map aY),nV ds.length,nV x1.1],[AObj.row 1 false 0 [iV day],AObj.row 1 false 0 [AV.str p],AObj.row 1 false 0 [AV.slice 4 x1.2.2.1 0 x1.2.2.2.1 none],AObj.map (aH aw x0.2.2 0) x0.2.2.length,AObj.row 28 true x1.2.2.1 (x1.2.2.2.2.map aY)])
theorem XJ(gs:List PGaz)(L:List PAct)(ds:List PDeed)(day:Int)(p:aO)(hL:L.length<10000)(hd:ds.length<100000)(ha:kP 67 [.ls (gs.map al)] (.ls (L.map ay)))(hi:kP 68 [.ls (gs.map al)] (.ls (ds.map aY)))(hE:qz day p (kM L []) ds ds≠[]):
    kD 47 [.ls (gs.map al),.func (.func 48) [] [.ptr 1 0 0 0,.ptr 0 0 0 0,.ptr 2 0 0 0]] (av [fG day,eQ p,qx]) (.tuple []) (av [fG day,eQ p,pt 3 ((qz day p (kM L []) ds ds).length -1) (qz day p (kM L []) ds ds).length,pm ((qz day p (kM L []) ds ds).length -1) (qz day p (kM L []) ds ds)]):=by
  have hlk:=oR
  have hup:=qN
  let q5:=[iV day];let q8:=bO [];let q10:=some (aZ 1 false 0 [ax p]);let q11:=some (aZ 1 false 0 q5);exact Oj Tryz.func47<|Kp 2 ha<|Kl 0 13 (ln ay L)<|Mg 0<|ML (Nat×List PAct×List (Int×PStart)) [0,1,4,12,13,14] (xY gs L day p) (Hn gs L day p) (fun a=>a.2.1.length) (0,L,[]) (aU<|xY gs L day p (0,L,[])) (et (rfl:List.drop 0 (L)=L) (by rfl:(kM L []=kM L []))) fun a b c=>let d:=some<|AObj.map (aH aw a.2.2 0) a.2.2.length;Mi (fun a b=>kM L []=kM a b) ay b (fun _ b c=>Kh 0 b<|Kp 0 hi<|Kl 2 27 (ln aY ds)<|Mg 0<|MM (Nat×List PDeed×Unit) (Nat×List PDeed×Nat×Nat×List PDeed) [1,4,7,26,27,28] (xV ds day p a) (Hi ds day p a) (Hm ds day p a) (Hl ds day p a) (fun a=>a.2.1.length) (fun a=>a.2.1.length) (.inl (0,ds,())) (aU<|xV ds day p a (0,ds,())) (et (rfl:List.drop 0 (ds)=ds) (by(exact⟨rfl⟩):(OnA day p a.2.2 ds ds))) (fun b e f=>Mc b.2.1 (fun d=>have f:=eP e.1 d;have b:=gw (J:=fun b _=>OnA day p a.2.2 ds b) (a:=b.2.2) d e.2;Kh 0 f<|Mw .abs (by exact hE (by rw[show kM L []=a.2.2 from c];exact b.f):False)) fun c g h=>let i:=[ab [iV c.act,iV c.item,iV c.day,iV c.it.kind,aW<|c.it.at_.map az,aW<|c.it.to.map az,iV c.it.where_,iV c.it.nth_,iV c.it.unit.act,iV c.it.unit.item,iV c.it.unit.n,iV c.it.unit.kind,ax c.it.unit.label,aW<|c.it.unit.head.map aQ,aW<|c.it.unit.words.map aQ,aW<|c.it.unit.kids.map aK,aW<|c.it.old.map mN,aW<|c.it.new.map mN,ax c.it.label,ax c.it.for_,iV c.it.start.kind,iV c.it.start.day,ax c.it.start.event,iV c.it.act,iV c.it.item,iV c.it.day,ax c.it.event,aW<|c.it.by_.map NG]];let j:=ab [iV (aB a.2.2 c.act).kind,iV (aB a.2.2 c.act).day,ax (aB a.2.2 c.act).event];have k:=fY e.1 h;have:=am k;have l:=eO (enc:=aY) e.1 h;have m:=cq (J:=fun b _=>OnA day p a.2.2 ds b) (a:=b.2.2) h e.2;Kt 0 k<|Mx l<|Kp 5 (jv c.it.kind)<|Mb (ca c.it.kind) (fun _=>Ms (wi day p a.2.2 ds c) (fun d=>K1 4 (.look j) (hlk a.2.2 c.act)<|Kp 1 (gJ (aB a.2.2 c.act) c ds<|by(omega))<|M3 (.efx false q8<|av [aZ 1 false 0 q5,aZ 1 false 0 [ax p],aZ 1 false 0 [aM 5 0 0 1 none],AObj.map (aH aw a.2.2 0) a.2.2.length,aZ 28 false 0 i,aZ 28 true 0 i]) (vB rt (tM a.2.2.length 5<|aa (f:=aw) (fun _=>rfl) a.2.2 0) rt rt rt ti) ti (Zl day p a.2.2 ds c d)<|Kl 0 46 (dV b.1)<|K1 0 (.ren [0,1,2,3,5,4] [3] [1,4,7,26,27,28]) (tN a.2.2.length<|aa (f:=aw) (fun _=>rfl) a.2.2 0)<|M1 (.frz 5 [1,4,7,26,27,28]) (vB rt (tM a.2.2.length 5<|aa (f:=aw) (fun _=>rfl) a.2.2 0) rt rt rt ti)<|Mf<|f (.inr (b.1+1,g,(0,1,[c]))) (et (bK e.1 h) (by exact m.new (Ic (e.1.trans h)) (by assumption) (by assumption) rfl:(OnR day p a.2.2 ds g (0:Nat) (1:Nat) [c])))<|dn h) fun k=>K1 4 (.look j) (hlk a.2.2 c.act)<|Kp 1 (gJ (aB a.2.2 c.act) c ds<|by(omega))<|M3 (.efx true q8<|av [aZ 1 false 0 q5,aZ 1 false 0 [ax p],aZ 1 false 0 [af],AObj.map (aH aw a.2.2 0) a.2.2.length,aZ 28 false 0 i]) (vB rt (tM a.2.2.length 5<|aa (f:=aw) (fun _=>rfl) a.2.2 0) rt rt rt ti) (vB (aU<|some<|aZ 28 false 0 i) (aU d) (aU<|some<|aZ 1 false 0 [af]) (aU q10) (aU q11) ti) (Zm day p a.2.2 ds c k)<|Kl 0 46 (dV b.1)<|K1 0 (.frz 4 [1,4,7,26,27,28]) (wR (tM a.2.2.length 4<|aa (f:=aw) (fun _=>rfl) a.2.2 0) rt rt rt ti)<|Mf<|f (.inl (b.1+1,g,())) (et (bK e.1 h) (by exact m.nil (by assumption):(OnA day p a.2.2 ds g)))<|dn h) fun _=>Kl 0 46 (dV b.1)<|K1 0 (.frz 4 [1,4,7,26,27,28]) (wR (tM a.2.2.length 4<|aa (f:=aw) (fun _=>rfl) a.2.2 0) rt rt rt ti)<|Mf<|f (.inl (b.1+1,g,())) (et (bK e.1 h) (by exact m.no (by assumption):(OnA day p a.2.2 ds g)))<|dn h) fun b e f=>let g:=[aM 4 b.2.2.1 0 b.2.2.2.1 none];let h:=List.map aY b.2.2.2.2;Mc b.2.1 (fun d=>have f:=eP e.1 d;have d:=gw (J:=fun b c=>OnR day p a.2.2 ds b c.1 c.2.1 c.2.2) (a:=b.2.2) d e.2;Kh 0 f<|M2 (.ren [0,1,2,4,3] [4,3] []) (tS 28 true b.2.2.1<|aX xX b.2.2.2.2) (tN a.2.2.length<|aa (f:=aw) (fun _=>rfl) a.2.2 0)<|M1 (.frz 4 []) (wR (tR 28 true b.2.2.1 4<|aX xX b.2.2.2.2) rt rt rt ti)<|Mf<|et (aU q8) (by(have q:=d.done;rw[show kM L []=a.2.2 from c,q.1,q.2.1,q.2.2]):(av [AObj.row 1 false 0 [iV day],AObj.row 1 false 0 [AV.str p],AObj.row 1 false 0 [AV.slice 3 b.2.2.1 0 b.2.2.2.1 none],AObj.row 28 true b.2.2.1 (b.2.2.2.2.map aY)])=(av [fG day,eQ p,pt 3 ((qz day p (kM L []) ds ds).length -1) (qz day p (kM L []) ds ds).length,pm ((qz day p (kM L []) ds ds).length -1) (qz day p (kM L []) ds ds)]))) fun c i j=>let k:=[ab [iV c.act,iV c.item,iV c.day,iV c.it.kind,aW<|c.it.at_.map az,aW<|c.it.to.map az,iV c.it.where_,iV c.it.nth_,iV c.it.unit.act,iV c.it.unit.item,iV c.it.unit.n,iV c.it.unit.kind,ax c.it.unit.label,aW<|c.it.unit.head.map aQ,aW<|c.it.unit.words.map aQ,aW<|c.it.unit.kids.map aK,aW<|c.it.old.map mN,aW<|c.it.new.map mN,ax c.it.label,ax c.it.for_,iV c.it.start.kind,iV c.it.start.day,ax c.it.start.event,iV c.it.act,iV c.it.item,iV c.it.day,ax c.it.event,aW<|c.it.by_.map NG]];let l:=ab [iV (aB a.2.2 c.act).kind,iV (aB a.2.2 c.act).day,ax (aB a.2.2 c.act).event];have m:=fY e.1 j;have:=am m;have n:=eO (enc:=aY) e.1 j;have o:=cq (J:=fun b c=>OnR day p a.2.2 ds b c.1 c.2.1 c.2.2) (a:=b.2.2) j e.2;Kt 0 m<|Mx n<|Kp 5 (jv c.it.kind)<|Mb (ca c.it.kind) (fun _=>Ms (wi day p a.2.2 ds c) (fun d=>K1 4 (.look l) (hlk a.2.2 c.act)<|Kp 1 (gJ (aB a.2.2 c.act) c ds<|by(omega))<|M3 (.efx false q8<|av [aZ 1 false 0 q5,aZ 1 false 0 [ax p],aZ 1 false 0 [aM 4 (b.2.2.1+1) 0 (b.2.2.2.1+1) none],AObj.map (aH aw a.2.2 0) a.2.2.length,aZ 28 true (b.2.2.1+1)<|(b.2.2.2.2++[c]).map aY,aZ 28 false 0 k]) (EM rt (tR 28 true b.2.2.1 6<|aX xX b.2.2.2.2) (tM a.2.2.length 6<|aa (f:=aw) (fun _=>rfl) a.2.2 0) rt rt rt ti) ti (Zh day p a.2.2 ds c b.2.2.1 b.2.2.2.1 b.2.2.2.2 d (by exact o.len)<|by(have z:=o.small;have z2:=o.len;simp only[lC]at z;omega))<|Kl 0 46 (dV b.1)<|K1 0 (.frz 5 [1,4,7,26,27,28]) (vB (tR 28 true (b.2.2.1+1) 5<|aX xX<|b.2.2.2.2++[c]) (tM a.2.2.length 5<|aa (f:=aw) (fun _=>rfl) a.2.2 0) rt rt rt ti)<|Mf<|f (.inr (b.1+1,i,(b.2.2.1+1,b.2.2.2.1+1,b.2.2.2.2++[c]))) (et (bK e.1 j) (by exact o.new (by assumption) (by assumption) rfl:(OnR day p a.2.2 ds i (b.2.2.1+1) (b.2.2.2.1+1) (b.2.2.2.2++[c]))))<|dn j) fun m=>K1 4 (.look l) (hlk a.2.2 c.act)<|Kp 1 (gJ (aB a.2.2 c.act) c ds<|by(omega))<|M3 (.efx true q8<|av [aZ 1 false 0 q5,aZ 1 false 0 [ax p],aZ 1 false 0 g,AObj.map (aH aw a.2.2 0) a.2.2.length,aZ 28 true b.2.2.1 h,aZ 28 false 0 k]) (EM rt (tR 28 true b.2.2.1 6<|aX xX b.2.2.2.2) (tM a.2.2.length 6<|aa (f:=aw) (fun _=>rfl) a.2.2 0) rt rt rt ti) (EM (aU<|some<|aZ 28 false 0 k) (aU<|some<|aZ 28 true b.2.2.1 h) (aU d) (aU<|some<|aZ 1 false 0 g) (aU q10) (aU q11) ti) (Zi day p a.2.2 ds c b.2.2.1 b.2.2.2.1 b.2.2.2.2 m)<|Kl 0 46 (dV b.1)<|K1 0 (.frz 5 [1,4,7,26,27,28]) (vB (tR 28 true b.2.2.1 5<|aX xX b.2.2.2.2) (tM a.2.2.length 5<|aa (f:=aw) (fun _=>rfl) a.2.2 0) rt rt rt ti)<|Mf<|f (.inr (b.1+1,i,(b.2.2.1,b.2.2.2.1,b.2.2.2.2))) (et (bK e.1 j) (by exact o.nil (by assumption):(OnR day p a.2.2 ds i b.2.2.1 b.2.2.2.1 b.2.2.2.2)))<|dn j) fun _=>Kl 0 46 (dV b.1)<|K1 0 (.frz 5 [1,4,7,26,27,28]) (vB (tR 28 true b.2.2.1 5<|aX xX b.2.2.2.2) (tM a.2.2.length 5<|aa (f:=aw) (fun _=>rfl) a.2.2 0) rt rt rt ti)<|Mf<|f (.inr (b.1+1,i,(b.2.2.1,b.2.2.2.1,b.2.2.2.2))) (et (bK e.1 j) (by exact o.no (by assumption):(OnR day p a.2.2 ds i b.2.2.1 b.2.2.2.1 b.2.2.2.2)))<|dn j) fun d e f g _ h i=>Kt 0 g<|Mx h<|K1 7 (.upd (aH aw (cT d.number d.start a.2.2) 0) (cT d.number d.start a.2.2).length) (hup a.2.2 d)<|Kl 0 23 (dV a.1)<|K1 0 (.frz 4 [0,1,4,12,13,14]) (wR (tM (cT d.number d.start a.2.2).length 4<|aa (f:=aw) (fun _=>rfl) (cT d.number d.start a.2.2) 0) rt rt rt ti)<|Mf<|c (a.1+1,e,cT d.number d.start a.2.2) (et (bK b.1 f) (by exact i:(kM L []=kM e (cT d.number d.start a.2.2))))<|dn f
/-- What is in force on a day for a purpose. -/
noncomputable def ZJ(day:Int)(p:aO)(L:List PAct)(ds:List PDeed):List PDeed:=qz day p (kM L []) ds ds
theorem X5(gs:List PGaz)(day:Int)(p:aO)(hc:kD 47 [.ls (gs.map al),.func (.func 48) [] [.ptr 1 0 0 0,.ptr 0 0 0 0,.ptr 2 0 0 0]] (av [fG day,eQ p,qx]) (.tuple []) (av [fG day,eQ p,qx])):kP 26 [iV day,.str p,.ls (gs.map al)] (.ls (([]:List PDeed).map aY)):=by
  exact bH Tryz.func26<|Ke 5 hc<|Kf 1 bI
theorem X4(gs:List PGaz)(day:Int)(p:aO)(X:List PDeed)(k:Nat)(hz:0<X.length)(hb:X.length<2^40)(hc:kD 47 [.ls (gs.map al),.func (.func 48) [] [.ptr 1 0 0 0,.ptr 0 0 0 0,.ptr 2 0 0 0]] (av [fG day,eQ p,qx]) (.tuple []) (av [fG day,eQ p,pt 3 k X.length,pm k X])):kP 26 [iV day,.str p,.ls (gs.map al)] (.ls (X.map aY)):=by
  let q:=List.map aY X;exact bH Tryz.func26<|Ke 5 hc<|Mg 1<|M2 (.fsl 0 [] 6 q) ti (ce (aU k) (tA aY X X.length rfl)<|aX xX X)<|Ml 6 (fg q false<|aX xX X)<|Mf<|bi<|aW q
theorem X6(gs:List PGaz)(L:List PAct)(ds:List PDeed)(day:Int)(p:aO)(hL:L.length<10000)(hd:ds.length<100000)(ha:kP 67 [.ls (gs.map al)] (.ls (L.map ay)))(hi:kP 68 [.ls (gs.map al)] (.ls (ds.map aY))):kP 26 [iV day,.str p,.ls (gs.map al)] (.ls ((ZJ day p L ds).map aY)):=by
  by_cases hE:ZJ day p L ds=[]
  · rw[hE];exact X5 gs day p (XK gs L ds day p hL hd ha hi hE)
  · have hl:(ZJ day p L ds).length≤ds.length:=List.length_filter_le ..
    exact X4 gs day p _ _ (pI.2 hE) (by omega) (XJ gs L ds day p hL hd ha hi hE)
/-- The book with nothing in it. -/
def uO:TUnit:=⟨0,0,0,0,[],[],[],[]⟩
theorem Rz:OkB uO:=⟨by decide,by decide,fun x hx=>by
  have e:x=uO:=by simpa[uO,bo,dr]using hx
  subst e;exact⟨bG _,bG _⟩⟩
theorem Xl(X:List PDeed)(hl:X.length<2^30)(ho:∀d,d∈X→xH d.it):kP 59 [zU,.ls (X.map aY)] (.tuple [eU (dg uO X),.ls ((fy uO X).map ib)]):=
  (SZ uO X Rz hl ho).args (.cons (vR _ _ (by kernel_rfl)).1 (.cons (Le.refl _) .nil))
theorem Rg(X:List PDeed)(hl:X.length<2^30)(ho:∀d,d∈X→xH d.it):kP 37 [.ls (X.map aY)] (.tuple [eU (dg uO X),.ls ((fy uO X).map ib)]):=by
  have h:=Xl X hl ho
  exact bH Tryz.func37<|Kp 3 h<|Kf 3<|bi<|bO [ab [iV (dg uO X).act,iV (dg uO X).item,iV (dg uO X).n,iV (dg uO X).kind,ax (dg uO X).label,aW<|List.map aQ (dg uO X).head,aW<|List.map aQ (dg uO X).words,aW<|List.map aK (dg uO X).kids],aW<|(fy uO X).map ib]
theorem Uu(gs:List PGaz)(day:Int)(p:aO)(X:List PDeed)(hon:kP 26 [iV day,.str p,.ls (gs.map al)] (.ls (X.map aY))):kP 36 [iV day,.str p,.ls (gs.map al)] (.ls (X.map aY)):=by
  exact bH Tryz.func36<|Kp 3 hon<|Kf 0<|bi<|aW<|X.map aY
theorem RG(gs:List PGaz)(day:Int)(p:aO)(X:List PDeed)(hl:X.length<2^30)(ho:∀d,d∈X→xH d.it)(hon:kP 26 [iV day,.str p,.ls (gs.map al)] (.ls (X.map aY))):kP 14 [iV day,.str p,.ls (gs.map al)] (eU (dg uO X)):=by
  have h1:=Uu gs day p X hon
  have h2:=Rg X hl ho
  exact bH Tryz.func14<|Kp 3 h1<|Mp h2<|Kf 7<|bi<|ab [iV (dg uO X).act,iV (dg uO X).item,iV (dg uO X).n,iV (dg uO X).kind,ax (dg uO X).label,aW<|List.map aQ (dg uO X).head,aW<|List.map aQ (dg uO X).words,aW<|List.map aK (dg uO X).kids]
/-- What the bound on gazettes tells. -/
structure OkG(gs:List PGaz):Prop where
  fit:pc gs
  len:gs.length≤9
  acts:∀g,g∈gs→g.acts.length≤20
  items:∀g,g∈gs→∀a,a∈g.acts→a.items.length≤40∧∀x,x∈a.items→mH x=true
theorem BO:∀(ys out:List PAct),(ys.foldl jT out).length≤out.length+ys.length
  |[],out=>au _
  | a::r,out=>by
    have:=BO r (jT out a);have:=(OS out a).2
    simp only[ma,lC];omega
theorem AZ:∀(gs:List PGaz),(∀g,g∈gs→g.acts.length≤20)→∀out,(bq gs out).length≤out.length+20*gs.length
  |[],_,out=>au _
  | g::r,hb,out=>by
    have:=AZ r (fun x hx=>hb x (eN _ hx)) (g.acts.foldl jT out)
    have:=BO g.acts out
    have:=hb g (eu ..)
    simp only[bq,ma,lC]at *
    omega
theorem OR{out:List PAct}{a b:PAct}(h:b∈jT out a):b∈out∨b=a:=by
  unfold jT at h
  split at h
  · exact .inl h
  · rcases js.1 h with h|h
    · exact .inl h
    · exact .inr (pG.1 h)
theorem BN:∀(ys out:List PAct)(b:PAct),b∈ys.foldl jT out→b∈out∨b∈ys
  |[],out,b,h=>.inl h
  | a::r,out,b,h=>by
    rcases BN r (jT out a) b h with h|h
    · rcases OR h with h|rfl
      · exact .inl h
      · exact .inr (eu ..)
    · exact .inr (eN _ h)
theorem AQ:∀(gs:List PGaz)(out:List PAct)(b:PAct),b∈bq gs out→b∈out∨∃g,g∈gs∧b∈g.acts
  |[],out,b,h=>.inl h
  | g::r,out,b,h=>by
    rcases AQ r (g.acts.foldl jT out) b h with h|⟨g2,q1,q2⟩
    · rcases BN g.acts out b h with h|h
      · exact .inl h
      · exact .inr ⟨g,eu ..,h⟩
    · exact .inr ⟨g2,eN _ q1,q2⟩
theorem uI:∀(l:List PAct),(∀a,a∈l→a.items.length≤40)→(mT l).length≤40*l.length
  |[],_=>au _
  | a::r,h=>by
    have:=uI r fun b hb=>h b (eN _ hb)
    have:=h a (eu ..)
    simp only[mT,List.flatMap_cons,lA,lz,lC]at *
    omega
theorem OkG.act{gs:List PGaz}(h:OkG gs){a:PAct}(ha:a∈gu gs):a.items.length≤40∧(∀x,x∈a.items→mH x=true)∧Nn a:=by
  have ha:=(pq gs).mem_iff.1 ha
  rcases AQ gs [] a ha with q|⟨g,h1,h2⟩
  · cases q
  · exact⟨(h.items g h1 a h2).1,(h.items g h1 a h2).2,(h.fit.2 g h1).2 a h2⟩
/-- The items as they stand. -/
noncomputable def pJ(gs:List PGaz):List PDeed:=bP (aD (gu gs) []) (gu gs)
theorem OkG.lens{gs:List PGaz}(h:OkG gs):(gu gs).length≤180∧(pJ gs).length≤7200:=by
  have h1:=AZ gs h.acts []
  have h2:=(pq gs).length_eq
  have h3:=uI (gu gs) fun a ha=>(h.act ha).1
  have h4:=h.len
  have h5:(pJ gs).length=(mT (gu gs)).length:=cX ..
  simp only[lN]at h1
  omega
theorem OkG.all{gs:List PGaz}(h:OkG gs):kP 67 [.ls (gs.map al)] (.ls ((gu gs).map ay))∧kP 68 [.ls (gs.map al)] (.ls ((pJ gs).map aY)):=by
  have h1:=h.lens
  have h2:=(pq gs).length_eq
  have h3:(pJ gs).length=(mT (gu gs)).length:=cX ..
  have h4:=h.len
  exact⟨LO gs h.fit (fun g hg=>m9 (h.acts g hg) (by decide)) (by omega) (by omega),Qw gs h.fit (fun g hg=>m9 (h.acts g hg) (by decide)) (by omega) (by omega) (fun a ha=>m9 (h.act ha).1 (by decide)) (by omega)⟩
theorem Xk{x y:PItem}(h:mH x=true)(hy:y∈x.by_):mH y=true:=by
  rw[D9]at h
  simp only[bx]at h
  have:=lL.1 h.2.2.2.2.2 y hy
  unfold Hs at this
  exact(pv.1 this).2
theorem Xj{x y:PItem}(h:m6 x)(hy:y∈x.by_):m6 y:=(qm.1 h).2.2.2.2.2.2 y hy
theorem Fc{K V:Type}{keq:K→K→Bool}{k:K}{v:V}:∀{l:List (K×V)}{e:K×V},e∈ft keq k v l→e∈l∨e.2=v
  | [],e,h=>by
    rw[ft,pG]at h;exact .inr (by rw[h])
  | (j,u)::r,e,h=>by
    rw[ft]at h
    cases q:keq k j with
    | true=>
      rw[q]at h
      rcases eM.1 h with h|h
      · exact .inr (by rw[h])
      · exact .inl (eN _ h)
    | false=>
      rw[q]at h
      rcases eM.1 h with h|h
      · exact .inl (by rw[h];exact eu ..)
      · rcases Fc (l:=r) h with h|h
        · exact .inl (eN _ h)
        · exact .inr h
theorem GE{K V:Type}{keq:K→K→Bool}{k:K}{v:V}:∀{l:List (K×V)},nD keq k l=some v→∃e,e∈l∧e.2=v
  |[],h=>by cases h
  | (j,u)::r,h=>by
    rw[nD]at h
    cases q:keq k j with
    |true=>rw[q]at h;exact⟨(j,u),eu ..,E0 h⟩
    | false=>
      rw[q]at h
      obtain⟨e,h1,h2⟩:=GE (l:=r) h
      exact⟨e,eN _ h1,h2⟩
theorem NM{m:List ((Int×Int)×PItem)}{x:PItem}(hm:∀e,e∈m→xH e.2)(h1:mH x=true)(h2:m6 x):∀e,e∈jp m x→xH e.2:=by
  unfold jp
  split
  · rename_i h
    simp only[bx]at h
    have hl:=am h.1.2
    have hy:gD x.by_ 0∈x.by_:=ge (by simp only[oN]at hl;omega)
    intro e he
    rcases Fc he with q|q
    · exact hm e q
    · rw[q];exact PH (Xj h2 hy) (Xk h1 hy)
  · exact hm
theorem CS:∀(xs:List PItem)(m:List ((Int×Int)×PItem)),(∀e,e∈m→xH e.2)→(∀x,x∈xs→mH x=true∧m6 x)→∀e,e∈xs.foldl jp m→xH e.2
  |[],_,hm,_=>hm
  |x::r,m,hm,h=>CS r (jp m x) (NM hm (h x (eu ..)).1 (h x (eu ..)).2) fun y hy=>h y (eN _ hy)
theorem CR:∀(l:List PAct)(m:List ((Int×Int)×PItem)),(∀e,e∈m→xH e.2)→(∀a,a∈l→∀x,x∈a.items→mH x=true∧m6 x)→∀e,e∈aD l m→xH e.2
  |[],_,hm,_=>hm
  |a::r,m,hm,h=>CR r (a.items.foldl jp m) (CS a.items m hm (h a (eu ..))) fun b hb=>h b (eN _ hb)
theorem Aa(a:PAct):∀(l:List PItem)(i:Nat)(d:PDeed),d∈cK a l i→d.it∈l
  |[],_,d,h=>by cases h
  | x::r,i,d,h=>by
    rcases eM.1 h with rfl|h
    · exact eu ..
    · exact eN _ (Aa a r _ d h)
theorem OkG.deed{gs:List PGaz}(h:OkG gs){d:PDeed}(hd:d∈pJ gs):xH d.it:=by
  have hi:∀a,a∈gu gs→∀x,x∈a.items→mH x=true∧m6 x:=fun a ha x hx=>⟨(h.act ha).2.1 x hx,(h.act ha).2.2.2 x hx⟩
  obtain⟨o,ho,rfl⟩:=kw.1 hd
  obtain⟨a,ha,hoa⟩:=List.mem_flatMap.1 ho
  have h1:=hi a ha _ (Aa a _ _ _ hoa)
  have h2:xH o.it:=PH h1.2 h1.1
  unfold m5
  split
  · rename_i hc
    have hc:=(pv.1 hc).1
    unfold qg at hc
    show xH (IW (aD (gu gs) []) o)
    unfold IW
    cases q:nD pQ (o.act,o.item) (aD (gu gs) [])with
    |none=>rw[q]at hc;cases hc
    | some v=>
      obtain⟨e,e1,e2⟩:=GE q
      have:=CR (gu gs) [] (fun e he=>by cases he) hi e e1
      rw[e2]at this
      exact this
  · exact h2
/-- What is in force. -/
noncomputable def ql(day:Int)(p:aO)(gs:List PGaz):List PDeed:=ZJ day p (gu gs) (pJ gs)
noncomputable def be(day:Int)(p:aO)(gs:List PGaz):TUnit:=dg uO (ql day p gs)
theorem OkG.force{gs:List PGaz}(h:OkG gs)(day:Int)(p:aO):(ql day p gs).length<2^30∧(∀d,d∈ql day p gs→xH d.it)∧kP 26 [iV day,.str p,.ls (gs.map al)] (.ls ((ql day p gs).map aY)):=by
  have hl:=h.lens
  have h1:(ql day p gs).length≤(pJ gs).length:=List.length_filter_le ..
  exact⟨by omega,fun d hd=>h.deed (List.mem_filter.1 hd).1,X6 gs _ _ day p (by omega) (by omega) h.all.1 h.all.2⟩
theorem OkG.book{gs:List PGaz}(h:OkG gs)(day:Int)(p:aO):kP 14 [iV day,.str p,.ls (gs.map al)] (eU (be day p gs)):=
  RG gs day p _ (h.force day p).1 (h.force day p).2.1 (h.force day p).2.2
theorem OkG.okB{gs:List PGaz}(h:OkG gs)(day:Int)(p:aO):OkB (be day p gs):=HB Rz (h.force day p).2.1
noncomputable def QA(a:PAct):Bool:=ak (ap 40 (Int.ofNat a.items.length))&&ak (ap 300 (Int.ofNat a.title.length))&&ak (ap 100 (Int.ofNat a.start.event.length))
noncomputable def Bc(a:PAct):Bool:=QA a&&a.items.all mH
def ZC(a:PAct)(x0:Nat×List PItem×Unit):Prop:=(a.items).drop x0.1=x0.2.1∧a.items.all mH=x0.2.1.all mH
noncomputable def ZB(a:PAct)(x0:Nat×List PItem×Unit):List AV×List AObj:=([AV.pptr [AV.agg [iV a.number,AV.str a.title,iV a.day,iV a.start.kind,iV a.start.day,AV.str a.start.event,AV.ls (a.items.map NG)]] 0 0,nV x0.1],[])
theorem Uw(a:PAct)(hf:Nn a):kP 50 [ay a] (.bool (Bc a)):=by
  have fa:a.items.length<2^60:=hf.1
  have rr0 b' (h:(Bc a)=b':=by simp only[Bc,QA,aS,ak,bS, *]):=h;exact bH Tryz.func50<|Kl 4 6 (ln NG a.items)<|Ka 1 40 (Int.ofNat a.items.length) (fun b _=>Mt b<|Mt b<|Mt b<|MV b<|Ky 3<|rr0 false) fun b _=>Kh 0 b<|Kh 0 b<|Kh 0 b<|Kw 0 b<|Ka 0 300 (Int.ofNat<|List.length a.title) (fun b _=>Mt b<|Mt b<|Mt b<|Mt b<|MV b<|Ky 1<|rr0 false) fun b _=>Kh 0 b<|Kh 0 b<|Kh 0 b<|Kh 0 b<|Kw 0 b<|Mb (ap 100<|Int.ofNat<|List.length a.start.event) (fun b=>have:=am b;Ky 0<|rr0 false) fun b=>have:=aE b;K1 0 (.frz 0 [1,3]) ti<|vP NG a.items [1,3] (fun b _=>([AV.pptr [ab [iV a.number,ax a.title,iV a.day,iV a.start.kind,iV a.start.day,ax a.start.event,aW<|a.items.map NG]] 0 0,nV b],[])) (fun b=>a.items.all mH=b.all mH) (by rfl) (fun _ _ _ _ _ b _=>Kl 3 24 (ln NG a.items)<|Kh 0 b<|Ky 0<|rr0 true) fun b _ c _ d e f g i _ j _=>have j:=j.trans<|congrArg some<|eb d;Kl 3 24 (ln NG a.items)<|Kt 0 i<|Kx 2 j<|Kp 0 (Uk d<|by exact hf.2 _ (aR c g))<|Kn 0 (mH d) (fun _=>Kf 0<|cb<|rr0 false) fun _=>Kl 1 27 (dV b)<|Kf 0<|f<|by simp only[aS,ak,bS, *]at *
noncomputable def UL(g:PGaz):Bool:=ap 100 (Int.ofNat g.prior.length)||ap 20 (Int.ofNat g.acts.length)
noncomputable def wI(g:PGaz):Bool:=ak (UL g)&&g.acts.all Bc
def XZ:List PAct→Int→Int
  |[],n=>n
  |a::r,n=>XZ r (n+1+Int.ofNat a.items.length)
def Jg:List PGaz→Int→Int
  |[],n=>n
  |g::r,n=>Jg r (XZ g.acts n)
noncomputable def CD(gs:List PGaz):Bool:=gs.all wI&&(ak (ap 60 (Jg gs 0))&&ak (ap 8 (Int.ofNat gs.length)))
theorem RP{x:Bool}(h:ak x=true):x=false:=by cases x with|false=>rfl|true=>cases h
theorem G6{a:PAct}(h:Bc a=true):a.items.length≤40:=by
  unfold Bc QA at h
  simp only[bx]at h
  have:=aE (RP h.1.1.1)
  simp only[oN]at this;omega
theorem Q8(gs:List PGaz)(hf:pc gs)(hl:gs.length<2^47):kP 30 [.ls (gs.map al)] (.bool (CD gs)):=by
  obtain⟨f0,f1⟩:=hf
  have fb:∀g,g∈gs→g.acts.length<2^60:=fun g hg=>(f1 g hg).1
  have rr0 b' (h:(CD gs)=b':=by(simp only[CD,wI,UL,Jg,aS,ak,bS, *];done)):=h;exact bH Tryz.func30<|Mg 2<|H0 al gs (0:Int) [0,3,4] (fun a _ b=>([aW<|gs.map al,iV b,nV a],[])) (fun a b=>(0:Int)≤b∧b+(1000:Int)*Int.ofNat a.length≤(1000:Int)*Int.ofNat gs.length∧gs.all wI=a.all wI∧Jg gs (0:Int)=Jg a b) (by(refine⟨by omega,by simp only[oN]at *;omega,rfl,rfl⟩)) (fun _ _ a _ _ _ b _=>Kl 2 8 (ln al gs)<|Kh 0 b<|Kd 2 60 a (fun a _=>Kt 0 (cH a)<|Kl 0 65 (ln al gs)<|Mt (cH a)<|Ku 0 (cH a)<|Kf 0<|cb<|rr0<|ak<|ap 8<|Int.ofNat gs.length) fun a _=>Mh (bR a)<|Mh (bR a)<|My (bR a)<|Ky 0<|rr0 false) fun a _ b c _ d f i j k _ l m=>Kl 2 8 (ln al gs)<|Kt 0 k<|Kx 1 l<|Ka 4 100 (Int.ofNat<|List.length d.prior) (fun a _=>Mt a<|Mt a<|Mt a<|Mt a<|Mt a<|Mt a<|MV a<|Ky 1<|rr0 false) fun k _=>Kh 0 k<|Kh 0 k<|Mx l<|Mh k<|Kh 0 k<|Kh 0 k<|Kl 0 25 (ln ay d.acts)<|Mh k<|Kw 0 k<|Mb (ap 20<|Int.ofNat d.acts.length) (fun a=>have:=am a;Ky 0<|rr0 false) fun k=>have:=aE k;Mg 0<|H0 ay d.acts b [0,3,4,5] (fun b _ c=>([aW<|gs.map al,iV c,nV a,nV b],[])) (fun a b=>(0:Int)≤b∧b+(41:Int)*Int.ofNat a.length+(1000:Int)*Int.ofNat f.length≤(1000:Int)*Int.ofNat gs.length∧d.acts.all Bc=a.all Bc∧True∧Jg gs (0:Int)=Jg f (XZ a b)) (by(refine⟨m.1,by have:=m.2.1;simp only[oN,lC]at *;omega,rfl,trivial,m.2.2.2⟩)) (fun _ _ b _ _ _ c j=>Kx 2 l<|Kl 2 34 (ln ay d.acts)<|Kh 0 c<|Kl 1 11 (dV a)<|Kf 0<|i b<|by(refine⟨j.1,by have:=j.2.1;simp only[oN,lN,lC]at *;omega,?_,j.2.2.2.2⟩;have e:=j.2.2.1;simp only[wI,UL,List.all_cons,List.all_nil,aS,ak,bS, *]at *)) fun a _ b i _ k m n o p _ q r=>have:=fb d<|aR c j;have:=((f1 d<|aR c j).2 k<|aR i o).1;Kx 2 l<|Kl 2 34 (ln ay d.acts)<|Kt 0 p<|Kx 1 l<|Kx 2 q<|Kp 0 (Uw k<|by first|exact(f1 _ (aR c j)).2 _ (aR i o))<|Kn 0 (Bc k) (fun _=>Kf 0<|cb<|rr0 false) fun _=>Kl 1 49 (Le.wr (x:=b+1) e9)<|Kx 1 l<|Kx 2 q<|Kl 2 59 (ln NG k.items)<|Kl 0 60 (Le.wr (x:=b+1+Int.ofNat k.items.length) e9)<|Kl 2 37 (dV a)<|Kf 0<|n (b+1+Int.ofNat k.items.length)<|by(refine⟨by simp only[oN]at *;omega,by(have:=r.2.1;have:=G6 (by assumption);simp only[oN,lC]at *;omega),?_,trivial,r.2.2.2.2⟩;simp only[aS,ak,bS, *]at *)
noncomputable def vA(gs:List PGaz)(p:aO):Bool:=CD gs&&ak (ap 100 (Int.ofNat p.length))
theorem NA(gs:List PGaz)(p:aO)(hf:pc gs)(hl:gs.length<2^47):kP 9 [.ls (gs.map al),.str p] (.bool (vA gs p)):=by
  have rr0 b' (h:(vA gs p)=b':=by simp only[vA,aS,ak,bS, *]):=h;exact bH Tryz.func9<|Kp 1 (Q8 gs hf hl)<|Kb 0 (CD gs) (fun a=>Kt 0 a<|Kt 0 a<|Ku 0 a<|Kf 0<|cb<|rr0<|ak<|ap 100<|Int.ofNat<|List.length p) fun a=>Mh a<|Mh a<|My a<|Ky 0<|rr0 false
theorem PI{gs:List PGaz}{p:aO}(hf:pc gs)(h:vA gs p=true):OkG gs:=by
  unfold vA CD at h
  simp only[bx]at h
  obtain⟨⟨h1,_,h3⟩,_⟩:=h
  have h3:=aE (RP h3)
  have hg:∀g,g∈gs→wI g=true:=fun g hg=>lL.1 h1 g hg
  refine⟨hf,by simp only[oN]at h3;omega,fun g h=>?_,fun g h a ha=>?_⟩
  · have z:=hg g h
    unfold wI UL at z
    have z:=aE (Bu.1 (RP (pv.1 z).1)).2
    simp only[oN]at z;omega
  · have z:=hg g h
    unfold wI at z
    have z:=lL.1 (pv.1 z).2 a ha
    refine⟨G6 z,?_⟩
    unfold Bc at z
    exact fun x hx=>lL.1 (pv.1 z).2 x hx

end Go.Proofs.YtaepacpodblomaaGreatDoor
