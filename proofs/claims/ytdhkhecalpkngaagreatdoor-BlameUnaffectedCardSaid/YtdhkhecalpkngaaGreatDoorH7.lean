/- Functions walked: what each of them answers, for An item in force that is not a contributor changes neither the presence nor the label, heading and words of the unit: part 7. Conditions: those that each theorem names. -/
import Derived.Test.YtdhkhecalpkngaaGreatDoorH6
namespace Go.Proofs.YtdhkhecalpkngaaGreatDoor
open Go Go.Ev
theorem wC:kP 98 [.nils] (.ls ((i7 []).map aY)):=(iN [] (by simp)).onArgs (.cons Le.nils .nil)
theorem DC{g:Int->Bool}{K:List Int}{x e:Nat}{S:List PSpan}(h:S=kX g (K.drop (x-1)))(h1:1<=x)(h2:x<K.length)(hg:g (gD K (x-1))=true)(he:e=x+1):S=⟨gD K (x-1),gD K x⟩::kX g (K.drop (e-1)):=by rw[h,Cj h1 h2,hg,he]
theorem DD{g:Int->Bool}{K:List Int}{x e:Nat}{S:List PSpan}(h:S=kX g (K.drop (x-1)))(h1:1<=x)(h2:x<K.length)(hg:g (gD K (x-1))=false)(he:e=x+1):S=kX g (K.drop (e-1)):=by rw[h,Cj h1 h2,hg,he]
theorem Zx:bb (dG (ph []))=[]:=rN (by have z:=AA [];exact Nat.le_zero.1 z)
theorem XS{A B x y:List PSpan}(h1:A=x)(h2:B=y):x++y=A++B:=by rw[h1,h2]
theorem Sq{A B x:List PSpan}(h1:A=x)(h2:B=[]):x=A++B:=by rw[h1,h2,ej]
theorem WQ{A B y:List PSpan}(h1:A=[])(h2:B=y):y=A++B:=by rw[h1,h2];rfl
theorem UQ{A r:List PSpan}{w:PSpan}(h:A=w::r)(hl:A.length<=1048577):r.length<2^30:=by rw[h,lC]at hl;omega
theorem TV{A B:List PSpan}{w v:PSpan}{r s:List PSpan}(h:A=w::r)(k:B=v::s)(hl:A.length<=1048577)(kl:B.length<=1048577):small (r.length+1+((v::s).map aY).length) 16=true:=by
  rw[h,lC]at hl;rw[k,lC]at kl
  rw[lM,lC];refine ec (m:=2^31) ?_ ?_ ?_<;>omega
theorem KE{B:List PSpan}{v:PSpan}{s:List PSpan}(k:B=v::s)(kl:B.length<=1048577):small ((v::s).map aY).length 16=true:=by
  rw[k,lC]at kl
  rw[lM,lC];refine ec (m:=2^31) ?_ ?_ ?_<;>omega
def Sk(F:Nat)(A:List PSpan)(B:List PSpan)(z20:List PSpan):Prop:=z20=A++B
noncomputable def Sj(F:Nat)(A:List PSpan)(B:List PSpan)(z20:List PSpan):List AV×List AObj:=([AV.ls (A.map aY),AV.ls (B.map aY),AV.func (Fn.func F) [] [],AV.nils,AV.ls (z20.map aY),nV z20.length,iV 0],[])
def Oy(F:Nat)(A:List PSpan)(B:List PSpan)(z20:List PSpan)(z37:List Int):Prop:=z37=iK z20
noncomputable def Ov(F:Nat)(A:List PSpan)(B:List PSpan)(z20:List PSpan)(z37:List Int):List AV×List AObj:=([AV.ls (A.map aY),AV.ls (B.map aY),AV.func (Fn.func F) [] [],AV.ls (z37.map bZ)],[])
def Ow(F:Nat)(A:List PSpan)(B:List PSpan)(z20:List PSpan)(z37:List Int):Prop:=z37=iK z20
noncomputable def Oj(F:Nat)(A:List PSpan)(B:List PSpan)(z20:List PSpan)(z37:List Int):List AV×List AObj:=([AV.ls (A.map aY),AV.ls (B.map aY),AV.func (Fn.func F) [] [],AV.ls (z37.map bZ)],[])
theorem MZ(F:Nat)(op:Bool->Bool->Bool)(hF:∀x y,aT Tryz.prog G F [.bool x,.bool y] (.bool (op x y)))(e0:op false false=false)(a b:List PSpan)(ha:a.length<2^30)(hb:b.length<2^30):
    aT Tryz.prog G 299 [.ls (a.map aY),.ls (b.map aY),.func (.func F) [] []] (.ls ((sU op a b).map aY)):=by
  have nA:=iN a ha
  have nB:=iN b hb
  have hA:=mo a
  have hB:=mo b
  have hd:=Oa e0 (a:=a) (b:=b) rfl rfl
  generalize i7 a=A at *
  generalize i7 b=B at *
  have lA:=hA.len
  have lB:=hB.len
  have hasA:∀d,aT Tryz.prog G 97 [.ls (A.map aY),.int .i64 d] (.bool (ii A d)):=fun d=>Jc A d hA.sort (by omega)
  have hasB:∀d,aT Tryz.prog G 97 [.ls (B.map aY),.int .i64 d] (.bool (ii B d)):=fun d=>Jc B d hB.sort (by omega)
  obtain⟨g,hg⟩:∃g:Int->Bool,g=fun d=>op (ii A d) (ii B d):=⟨_,rfl⟩
  have hgv:∀d v0,op (ii A d) (ii B d)=v0->g d=v0:=fun d v0 h=>by rw[hg];exact h
  rw[<-hg]at hd
  have hcl:∀x,x=A++B->(iK x).length<2^30:=fun x hx=>by
    have z:=AA x
    rw[hx,dT]at z
    rw[hx];omega
  have hll:∀x,x=A++B->x.length<2^22:=fun x hx=>by rw[hx,dT];omega
  obtain⟨res,hres⟩:∃res,res=sU op a b:=⟨_,rfl⟩
  rw[<-hres]at hd ⊢
  have hdone:∀x y z,x=A++B->y=iK x->kX g y=z->i7 z=res:=fun x y z h1 h2 h3=>by rw[<-h3,h2,h1];exact hd
  clear hd hg hres hA hB
  have rr0 b' (h:(List.map aY res)=b':=by first|rfl|exact hdone _ _ _ hz20 hz37 (by rw[hx1.2.2,lY hx1.1 (by(first|omega|(simp only[aL]at *;omega)))])|exact(hdone _ _ _ hz20 hz37 (by rw[hx1.2.2.2.2,lY hx1.1 (by(first|omega|(simp only[aL]at *;omega))),ej]))|(rw[hdone _ _ _ hz20 hz37 (by rw[hx1.2.2,lY hx1.1 (by(first|omega|(simp only[aL]at *;omega)))])])|(rw[hdone _ _ _ hz20 hz37 (by rw[hx1.2.2.2.2,lY hx1.1 (by(first|omega|(simp only[aL]at *;omega))),ej])])):=h;exact bB Tryz.func299<|Kp 1 nA<|Kp 0 nB<|Mg 2<|M0 .inn<|Mj (List PSpan) [0,1,2,7,20,21,22] (Sj F A B) (Sk F A B) (fun c=>Mg 0<|Mc A (fun e=>Ml 17 (fk<|by rw[e];rfl:Le (aW []) (aW (List.map aY A)))<|Mz 17 (fun(_:([]:List AV)=[])=>Mg 1<|Mc B (fun e=>Ml 19 (fk<|by rw[e];rfl:Le (aW []) (aW (List.map aY B)))<|Kl 0 20 bA<|Kf 1<|c [] (by exact Sq (by assumption) (by assumption):[]=A++B)) fun e f i=>Ml 19 (fk<|by rw[i]:Le (aW (List.map aY (e::f))) (aW (List.map aY B)))<|M2 .apl (et (by exact j5 _ _:List.map aY (e::f)≠[])<|fM 2 aY (e::f) fun _=>rfl) (by exact KE (by assumption) lB:small (List.map aY (e::f)).length 16=true)<|M2 (.fsl 0 [0,1,2,7] 20<|List.map aY<|e::f) True.intro (co (aJ 0) (tA aY (e::f) (List.map aY<|e::f).length (by(simp only[cX,cO,dT];done):(e::f).length=(List.map aY (e::f)).length))<|aX V2<|e::f)<|Ml 20 (fw (List.map aY<|e::f) false<|aX V2<|e::f)<|Kl 0 21 (ln aY<|e::f)<|Kf 0<|c (e::f) (by exact WQ (by assumption) (by assumption):e::f=A++B))<|Mg 1<|Mc B (fun e=>Ml 19 (fk<|by rw[e];rfl:Le (aW []) (aW (List.map aY B)))<|Kl 0 20 (fw [] true (aJ 0:aq ([])=0))<|Kf 1<|c [] (by exact Sq (by assumption) (by assumption):[]=A++B)) fun e f i=>Ml 19 (fk<|by rw[i]:Le (aW (List.map aY (e::f))) (aW (List.map aY B)))<|M2 .apl (et (by exact j5 _ _:List.map aY (e::f)≠[])<|fM 2 aY (e::f) fun _=>rfl) (by exact KE (by assumption) lB:small (List.map aY (e::f)).length 16=true)<|M2 (.fsl 0 [0,1,2,7] 20<|List.map aY<|e::f) True.intro (co (aJ 0) (tA aY (e::f) (List.map aY<|e::f).length (by(simp only[cX,cO,dT];done):(e::f).length=(List.map aY (e::f)).length))<|aX V2<|e::f)<|Ml 20 (fw (List.map aY<|e::f) false<|aX V2<|e::f)<|Kl 0 21 (ln aY<|e::f)<|Kf 0<|c (e::f) (by exact WQ (by assumption) (by assumption):e::f=A++B)) fun e f i=>Ml 17 (fk<|by rw[i]:Le (aW (List.map aY (e::f))) (aW (List.map aY A)))<|Me (R7 e f<|by exact UQ (by assumption) lA)<|Mg 0<|Mc B (fun i=>Ml 19 (fk<|by rw[i];rfl:Le (aW []) (aW (List.map aY B)))<|Mg 0<|M2 (.fsl 0 [0,1,2,7] 20<|List.map aY<|e::f) True.intro (co (aJ 0) (tA aY (e::f) (f.length+1) rfl)<|aX V2<|e::f)<|Ml 20 (fw (List.map aY<|e::f) false<|aX V2<|e::f)<|Kl 0 21 (ln aY<|e::f)<|Kf 0<|c (e::f) (by exact Sq (by assumption) (by assumption):e::f=A++B)) fun i j k=>Ml 19 (fk<|by rw[k]:Le (aW (List.map aY (i::j))) (aW (List.map aY B)))<|M2 .apl (et (by exact j5 _ _:List.map aY (i::j)≠[])<|fM 2 aY (i::j) fun _=>rfl) (co (aJ 0) (by(simp only[cX,cO,dT];done):f.length+1=(List.map aY (e::f)).length) (by exact TV (by assumption) (by assumption) lA lB:small (f.length+1+(List.map aY (i::j)).length) 16=true))<|M1 (.obj 0<|aZ 2 true (0+1)<|List.map aY<|e::f++i::j) (congrArg (aZ 2 true<|0+1)<|dw (f:=aY) (l:=e::f) (ws:=i::j))<|M2 (.fsl 0 [0,1,2,7] 20<|List.map aY<|e::f++i::j) True.intro (co (aJ<|0+1) (tA aY (e::f++i::j) (f.length+1+(List.map aY<|i::j).length) (by(simp only[cX,cO,dT];done):(e::f++i::j).length=f.length+1+(List.map aY (i::j)).length))<|aX V2<|e::f++i::j)<|Ml 20 (fw (List.map aY<|e::f++i::j) false<|aX V2<|e::f++i::j)<|Kl 0 21 (ln aY<|e::f++i::j)<|Kf 0<|c (e::f++i::j) (by exact XS (by assumption) (by assumption):e::f++i::j=A++B)) fun c hz20=>have hz20:=hz20;mQ Nat Nat (List Int) aY c [0,1,2,7,20,21,22] (fun e _=>([aW<|A.map aY,aW<|B.map aY,bV (bK F) [] [],ak,aW<|c.map aY,nV c.length,nV e],[])) (fun e _ f i j=>([aW<|A.map aY,aW<|B.map aY,bV (bK F) [] [],aH 0 f 0 i none,aW<|c.map aY,nV c.length,nV e],[aZ 1 true f<|j.map bZ])) (fun e=>ph c=ph e) (fun e _ f i=>f=i.length/\(0:Nat)<i.length/\ph c=i++ph e) (by rfl) (fun _ _ _ _ _ e f=>Kh 0 e<|Kp 0 GB<|Mj (List Int) [0,1,2,7] (Ov F A B c) (Oy F A B c) (fun e=>Kl 1 37 bA<|Kf 0<|e [] (by(unfold iK;rw[f];exact Zx.symm):[]=iK c)) fun e hz37=>have hz37:=hz37;have:=hz37▸hcl _ hz20;Mg 1<|SF Nat Nat Nat (List PSpan) (1:Nat) [0,1,2,7,10,11] (fun c=>([aW<|A.map aY,aW<|B.map aY,bV (bK F) [] [],aW<|e.map bZ,ak,nV c],[])) (fun c f i j=>([aW<|A.map aY,aW<|B.map aY,bV (bK F) [] [],aW<|e.map bZ,aH 0 f 0 i none,nV c],[aZ 2 true f<|j.map aY])) (fun c=>(1:Nat)<=c/\c<=2^30/\kX g e=kX g (e.drop<|c-1)) (fun c _ f i=>(1:Nat)<=c/\c<=2^30/\f=i.length/\i.length<c/\kX g e=i++kX g (e.drop<|c-1)) (fun c=>2^31-c) (fun c _ _ _=>2^31-c) (by exact⟨af _,by omega,rfl⟩) (fun c hx1 f i=>have hx1:=hx1;have:=hx1.1;have:=hx1.2.1;Kl 2 40 (ln bZ e)<|Ka 0 (Int.ofNat c) (Int.ofNat e.length) (fun _ _=>Kl 2 46 (E8 c)<|Mx (bQ bZ (by(simp only[aL,cX,ku]at *;omega):c-1<(e).length))<|Kp 4 (hasA<|gD e<|c-1)<|Kp 1 (hasB<|gD e<|c-1)<|Mp (hF (ii A<|gD e<|c-1)<|ii B<|gD e<|c-1)<|Mb (op (ii A<|gD e<|c-1)<|ii B<|gD e<|c-1) (fun _=>Kx 3 (bQ bZ (by(simp only[aL,cX,ku]at *;omega):c<(e).length))<|Kl 6 43 (iT c)<|Kf 0<|i (c+1) 0 1 [PSpan.mk (gD e<|c-1)<|gD e c] (by exact⟨by(omega),by(simp only[aL]at *;omega),rfl,by(simp only[cO,gp];omega),DC hx1.2.2 hx1.1 (by(simp only[aL]at *;omega)) (hgv _ _ (by assumption)) rfl⟩)<|by(omega)) fun _=>Kl 1 43 (iT c)<|Kf 0<|f (c+1) (by exact⟨by(omega),by(simp only[aL]at *;omega),DD hx1.2.2 hx1.1 (by(simp only[aL]at *;omega)) (hgv _ _ (by assumption)) rfl⟩)<|by(omega)) fun _ _=>Kp 0 wC<|Kf 0<|cY<|rr0<|List.map aY<|i7 []) fun c i j k hx1 _ l=>have hx1:=hx1;have:=hx1.1;have:=hx1.2.1;Kl 2 40 (ln bZ e)<|Ka 0 (Int.ofNat c) (Int.ofNat e.length) (fun _ _=>Kl 2 46 (E8 c)<|Mx (bQ bZ (by(simp only[aL,cX,ku]at *;omega):c-1<(e).length))<|Kp 4 (hasA<|gD e<|c-1)<|Kp 1 (hasB<|gD e<|c-1)<|Mp (hF (ii A<|gD e<|c-1)<|ii B<|gD e<|c-1)<|Mb (op (ii A<|gD e<|c-1)<|ii B<|gD e<|c-1) (fun _=>Kx 3 (bQ bZ (by(simp only[aL,cX,ku]at *;omega):c<(e).length))<|K1 2 .app (co (aJ i) (by(rw[cX];first|exact f.1|exact hx1.2.2.1):j=(List.map aY k).length) (by(refine ec (m:=2^31) ?_ ?_ ?_<;>first|omega|(simp only[cX,cO,dT,gp];omega)|(have z:=congrArg List.length f.2.2;rw[kc,dT]at z;have z9:=hll _ hz20;have z2:=f.1;first|omega|(simp only[cO,gp];omega))|(have z:=hx1.2.2.2.1;have z2:=hx1.2.2.1;have z3:=hx1.2.1;first|omega|(simp only[cO,gp];omega))):small (j+1) 16=true))<|M1 (.obj 0<|aZ 2 true (i+1)<|List.map aY<|k++[PSpan.mk (gD e<|c-1)<|gD e c]) (congrArg (aZ 2 true<|i+1)<|dw (f:=aY) (l:=k) (ws:=[PSpan.mk (gD e<|c-1)<|gD e c]))<|Kl 2 43 (iT c)<|Kf 0<|l (c+1) (i+1) (j+1) (k++[PSpan.mk (gD e<|c-1)<|gD e c]) (by exact⟨by(omega),by(simp only[aL]at *;omega),by rw[dT,<-hx1.2.2.1];rfl,by(have z:=hx1.2.2.2.1;simp only[dT,cO,gp];omega),by rw[hx1.2.2.2.2,DC rfl hx1.1 (by(simp only[aL]at *;omega)) (hgv _ _ (by assumption)) rfl];simp⟩)<|by(omega)) fun _=>Kl 1 43 (iT c)<|Kf 0<|l (c+1) i j k (by exact⟨by(omega),by(simp only[aL]at *;omega),hx1.2.2.1,by(have z:=hx1.2.2.2.1;omega),by rw[hx1.2.2.2.2,DD rfl hx1.1 (by(simp only[aL]at *;omega)) (hgv _ _ (by assumption)) rfl]⟩)<|by(omega)) fun _ _=>Mg 0<|M2 (.fsl 0 [] 66<|List.map aY k) True.intro (co (aJ i) (tA aY k j (by(omega):(k).length=j))<|aX V2 k)<|Ml 66 (fw (List.map aY k) false<|aX V2 k)<|Mp (iN k<|by(omega))<|Kf 0<|cY<|rr0<|List.map aY<|i7 k) (fun e _ _ _ f i _ j _ k _ l n=>have:=hll _ hz20;Kt 0 k<|Mx l<|Kl 11 33 (iT e)<|Mg 0<|M0 (.ren [1,0] [] [0,1,2,7,20,21,22])<|M1 (.frz 1 [0,1,2,7,20,21,22]) (et (aJ true) True.intro)<|Mf<|j 0 2 [f.from_,f.to]<|by exact⟨rfl,by simp,by rw[n];rfl⟩) (fun _ _ e f i _ _ _ j k=>Kh 0 j<|Ke 0 (Jv i e f (by(omega)) (by(omega))<|by(have z:=congrArg List.length k.2.2;rw[kc,dT]at z;have z9:=hll _ hz20;omega))<|Mj (List Int) [0,1,2,7] (Oj F A B c) (Ow F A B c) (fun j=>Ke 0 (Bp (dG i) e f (by(rw[(kM _).length_eq];first|exact k.1|exact k.2.1|(have z:=congrArg List.length k.2.2;rw[kc,dT]at z;have z9:=hll _ hz20;omega))) (by(rw[(kM _).length_eq];first|exact k.1|exact k.2.1|(have z:=congrArg List.length k.2.2;rw[kc,dT]at z;have z9:=hll _ hz20;omega)))<|by(rw[(kM _).length_eq];first|exact k.1|exact k.2.1|(have z:=congrArg List.length k.2.2;rw[kc,dT]at z;have z9:=hll _ hz20;omega)))<|M2 (.fsl 0 [0,1,2] 37<|List.map bZ<|List.take (bb<|dG i).length<|bb (dG i)++List.replicate ((dG i).length -(bb<|dG i).length) 0) True.intro (co (aJ e) (yG (f:=bZ) (l:=bb (dG i)++List.replicate ((dG i).length -(bb<|dG i).length) 0) (n:=(bb<|dG i).length))<|aX XD<|List.take (bb<|dG i).length<|bb (dG i)++List.replicate ((dG i).length -(bb<|dG i).length) 0)<|Ml 37 (fw (List.map bZ<|List.take (bb<|dG i).length<|bb (dG i)++List.replicate ((dG i).length -(bb<|dG i).length) 0) false<|aX XD<|List.take (bb<|dG i).length<|bb (dG i)++List.replicate ((dG i).length -(bb<|dG i).length) 0)<|Kf 0<|j (List.take (bb<|dG i).length<|bb (dG i)++List.replicate ((dG i).length -(bb<|dG i).length) 0) (by(unfold iK;rw[k.2.2];simp[ph]):List.take (bb (dG i)).length (bb (dG i)++List.replicate ((dG i).length -(bb (dG i)).length) (0:Int))=iK c)) fun e hz37=>have hz37:=hz37;have:=hz37▸hcl _ hz20;Mg 1<|SF Nat Nat Nat (List PSpan) (1:Nat) [0,1,2,7,10,11] (fun c=>([aW<|A.map aY,aW<|B.map aY,bV (bK F) [] [],aW<|e.map bZ,ak,nV c],[])) (fun c f i j=>([aW<|A.map aY,aW<|B.map aY,bV (bK F) [] [],aW<|e.map bZ,aH 0 f 0 i none,nV c],[aZ 2 true f<|j.map aY])) (fun c=>(1:Nat)<=c/\c<=2^30/\kX g e=kX g (e.drop<|c-1)) (fun c _ f i=>(1:Nat)<=c/\c<=2^30/\f=i.length/\i.length<c/\kX g e=i++kX g (e.drop<|c-1)) (fun c=>2^31-c) (fun c _ _ _=>2^31-c) (by exact⟨af _,by omega,rfl⟩) (fun c hx1 f i=>have hx1:=hx1;have:=hx1.1;have:=hx1.2.1;Kl 2 40 (ln bZ e)<|Ka 0 (Int.ofNat c) (Int.ofNat e.length) (fun _ _=>Kl 2 46 (E8 c)<|Mx (bQ bZ (by(simp only[aL,cX,ku]at *;omega):c-1<(e).length))<|Kp 4 (hasA<|gD e<|c-1)<|Kp 1 (hasB<|gD e<|c-1)<|Mp (hF (ii A<|gD e<|c-1)<|ii B<|gD e<|c-1)<|Mb (op (ii A<|gD e<|c-1)<|ii B<|gD e<|c-1) (fun _=>Kx 3 (bQ bZ (by(simp only[aL,cX,ku]at *;omega):c<(e).length))<|Kl 6 43 (iT c)<|Kf 0<|i (c+1) 0 1 [PSpan.mk (gD e<|c-1)<|gD e c] (by exact⟨by(omega),by(simp only[aL]at *;omega),rfl,by(simp only[cO,gp];omega),DC hx1.2.2 hx1.1 (by(simp only[aL]at *;omega)) (hgv _ _ (by assumption)) rfl⟩)<|by(omega)) fun _=>Kl 1 43 (iT c)<|Kf 0<|f (c+1) (by exact⟨by(omega),by(simp only[aL]at *;omega),DD hx1.2.2 hx1.1 (by(simp only[aL]at *;omega)) (hgv _ _ (by assumption)) rfl⟩)<|by(omega)) fun _ _=>Kp 0 wC<|Kf 0<|cY<|rr0<|List.map aY<|i7 []) fun c f i j hx1 _ l=>have hx1:=hx1;have:=hx1.1;have:=hx1.2.1;Kl 2 40 (ln bZ e)<|Ka 0 (Int.ofNat c) (Int.ofNat e.length) (fun _ _=>Kl 2 46 (E8 c)<|Mx (bQ bZ (by(simp only[aL,cX,ku]at *;omega):c-1<(e).length))<|Kp 4 (hasA<|gD e<|c-1)<|Kp 1 (hasB<|gD e<|c-1)<|Mp (hF (ii A<|gD e<|c-1)<|ii B<|gD e<|c-1)<|Mb (op (ii A<|gD e<|c-1)<|ii B<|gD e<|c-1) (fun _=>Kx 3 (bQ bZ (by(simp only[aL,cX,ku]at *;omega):c<(e).length))<|K1 2 .app (co (aJ f) (by(rw[cX];first|exact k.1|exact hx1.2.2.1):i=(List.map aY j).length) (by(refine ec (m:=2^31) ?_ ?_ ?_<;>first|omega|(simp only[cX,cO,dT,gp];omega)|(have z:=congrArg List.length k.2.2;rw[kc,dT]at z;have z9:=hll _ hz20;have z2:=k.1;first|omega|(simp only[cO,gp];omega))|(have z:=hx1.2.2.2.1;have z2:=hx1.2.2.1;have z3:=hx1.2.1;first|omega|(simp only[cO,gp];omega))):small (i+1) 16=true))<|M1 (.obj 0<|aZ 2 true (f+1)<|List.map aY<|j++[PSpan.mk (gD e<|c-1)<|gD e c]) (congrArg (aZ 2 true<|f+1)<|dw (f:=aY) (l:=j) (ws:=[PSpan.mk (gD e<|c-1)<|gD e c]))<|Kl 2 43 (iT c)<|Kf 0<|l (c+1) (f+1) (i+1) (j++[PSpan.mk (gD e<|c-1)<|gD e c]) (by exact⟨by(omega),by(simp only[aL]at *;omega),by rw[dT,<-hx1.2.2.1];rfl,by(have z:=hx1.2.2.2.1;simp only[dT,cO,gp];omega),by rw[hx1.2.2.2.2,DC rfl hx1.1 (by(simp only[aL]at *;omega)) (hgv _ _ (by assumption)) rfl];simp⟩)<|by(omega)) fun _=>Kl 1 43 (iT c)<|Kf 0<|l (c+1) f i j (by exact⟨by(omega),by(simp only[aL]at *;omega),hx1.2.2.1,by(have z:=hx1.2.2.2.1;omega),by rw[hx1.2.2.2.2,DD rfl hx1.1 (by(simp only[aL]at *;omega)) (hgv _ _ (by assumption)) rfl]⟩)<|by(omega)) fun _ _=>Mg 0<|M2 (.fsl 0 [] 66<|List.map aY j) True.intro (co (aJ f) (tA aY j i (by(omega):(j).length=i))<|aX V2 j)<|Ml 66 (fw (List.map aY j) false<|aX V2 j)<|Mp (iN j<|by(omega))<|Kf 0<|cY<|rr0<|List.map aY<|i7 j) fun e _ f i j _ _ k l _ n _ o _ p q=>have:=hll _ hz20;Kt 0 o<|Mx p<|K1 8 .app (co (aJ f) (by(rw[cX];first|exact q.1|exact hx1.2.2.1):i=(List.map bZ j).length) (by(refine ec (m:=2^31) ?_ ?_ ?_<;>first|omega|(simp only[cX,cO,dT,gp];omega)|(have z:=congrArg List.length q.2.2;rw[kc,dT]at z;have z9:=hll _ hz20;have z2:=q.1;first|omega|(simp only[cO,gp];omega))|(have z:=hx1.2.2.2.1;have z2:=hx1.2.2.1;have z3:=hx1.2.1;first|omega|(simp only[cO,gp];omega))):small (i+2) 8=true))<|M1 (.obj 0<|aZ 1 true (f+1)<|List.map bZ<|j++[k.from_,k.to]) (congrArg (aZ 1 true<|f+1)<|dw (f:=bZ) (l:=j) (ws:=[k.from_,k.to]))<|Kl 1 33 (iT e)<|K1 0 (.frz 1 [0,1,2,7,20,21,22]) (et (tR 1 true (f+1) 1<|aX XD<|j++[k.from_,k.to]) True.intro)<|Mf<|n (f+1) (i+2) (j++[k.from_,k.to])<|by exact⟨by rw[dT,<-q.1];rfl,by simp,by rw[q.2.2,C9];simp⟩
theorem WD(x y:Bool):kP 300 [.bool x,.bool y] (.bool (x||y)):=by
  have rr0 b' (h:(x||y)=b':=by simp only[aS,aj,bS, *]):=h;exact bB Tryz.func300<|Kb 2 x (fun a=>MV a<|Ky 0<|rr0 true) fun a=>Kw 0 a<|Ky 0<|rr0 y
theorem Vv(x y:Bool):kP 301 [.bool x,.bool y] (.bool (x&&y)):=by
  have rr0 b' (h:(x&&y)=b':=by simp only[aS,aj,bS, *]):=h;exact bB Tryz.func301<|Kb 2 x (fun a=>Ku 0 a<|Ky 0<|rr0 y) fun a=>My a<|Ky 0<|rr0 false
theorem PJ(a b:List PSpan)(ha:a.length<2^30)(hb:b.length<2^30):kP 266 [.ls (a.map aY),.ls (b.map aY)] (.ls ((sU (· || ·) a b).map aY)):=by
  have h:=MZ 300 (· || ·) WD rfl a b ha hb
  exact bB Tryz.func266<|Kp 2 h<|Kf 0<|bx<|aW<|(sU (fun c d=>c||d) a b).map aY
theorem QE(a b:List PSpan)(ha:a.length<2^30)(hb:b.length<2^30):kP 268 [.ls (a.map aY),.ls (b.map aY)] (.ls ((sU (· && ·) a b).map aY)):=by
  have h:=MZ 301 (· && ·) Vv rfl a b ha hb
  exact bB Tryz.func268<|Kp 2 h<|Kf 0<|bx<|aW<|(sU (fun c d=>c&&d) a b).map aY
noncomputable def oT(a:List PSpan)(d:Int):List PSpan:=sU (· && ·) a [⟨0,d⟩]
noncomputable def pO(a:List PSpan)(d:Int):List PSpan:=sU (· || ·) (oT a d) [⟨d,1048577⟩]
theorem sa(a:List PSpan)(d:Int):NrmS (oT a d):=zh _
theorem ue(a:List PSpan)(d:Int):NrmS (pO a d):=zh _
theorem Fc(a:List PSpan)(d:Int)(ha:a.length<2^30):kP 218 [.ls (a.map aY),iV d] (.ls ((oT a d).map aY)):=by
  have h:kP 268 [.ls (a.map aY),.ps [aY ⟨0,d⟩] true] (.ls ((oT a d).map aY)):=(QE a [⟨0,d⟩] ha (by simp)).onArgs (.cons (Le.refl _) (.cons (Le.ps _ _ rfl) .nil))
  exact bB Tryz.func218<|Kp 4 h<|Kf 0<|bx<|aW<|(oT a d).map aY
theorem Rg(a:List PSpan)(d:Int)(ha:a.length<2^30):kP 216 [.ls (a.map aY),iV d] (.ls ((pO a d).map aY)):=by
  have h0:=Fc a d ha
  have hl:=(sa a d).len
  have h:kP 266 [.ls ((oT a d).map aY),.ps [aY ⟨d,1048577⟩] true] (.ls ((pO a d).map aY)):=(PJ (oT a d) [⟨d,1048577⟩] (by omega) (by simp)).onArgs (.cons (Le.refl _) (.cons (Le.ps _ _ rfl) .nil))
  exact bB Tryz.func216<|Kp 2 h0<|Kp 2 h<|Kf 0<|bx<|aW<|(pO a d).map aY
noncomputable def sJ(k:Int):Bool:=ab k 7||ab k 9
noncomputable def kT(k:Int):Bool:=sJ k||ab k 8
noncomputable def rR(k:Int):AV:=match sJ k with|true=>.func (.func 216) [] []|false=>match ab k 8 with|true=>.func (.func 218) [] []|false=>.nilf
theorem zH(k:Int):eM (some .nilf) true (ba false 1 [(0,1)] (iV k) [⟨iV 7,.func (.func 216) [] [],0⟩,⟨iV 9,.func (.func 216) [] [],1⟩,⟨iV 8,.func (.func 218) [] [],2⟩] 0)=some (.tuple [rR k,.bool (kT k)]):=by
  unfold rR kT sJ
  simp only[ba,qu,Ha,kE]
  cases h1:ab k 7<;>cases h2:ab k 9<;>cases h3:ab k 8<;>rfl
theorem Pq{k:Int}(h:sJ k=true):Le (.func (.func 216) [] []) (rR k):=by unfold rR;rw[h];exact Le.refl _
theorem S4{k:Int}(h:sJ k=false)(h2:kT k=true):Le (.func (.func 218) [] []) (rR k):=by
  unfold kT at h2;rw[h,Bool.false_or]at h2
  unfold rR;rw[h,h2];exact Le.refl _
noncomputable def Pz:List AEnt:=[⟨iV 7,.func (.func 216) [] [],0⟩,⟨iV 9,.func (.func 216) [] [],1⟩,⟨iV 8,.func (.func 218) [] [],2⟩]
theorem S2(x:PItem):kD 141 [] (aa [.row 25 false 0 [eI x]]) (.map 1) (aa [.row 25 false 0 [eI x],.map Pz 3]):=by
  exact fu Tryz.func141 fun a=>Kf 6 a
theorem S3(s:PStart)(d o:PDeed):kD 141 [] (aa [.row 3 false 0 [ao s],.row 28 false 0 [aK d],.row 28 false 0 [aK o]]) (.map 3) (aa [.row 3 false 0 [ao s],.row 28 false 0 [aK d],.row 28 false 0 [aK o],.map Pz 3]):=by
  exact fu Tryz.func141 fun a=>Kf 6 a
noncomputable def rV(x:PItem)(a i:Int):Bool:=ab x.act a&&(match ab x.kind 11 with|true=>ab x.item i|false=>kT x.kind&&(ab x.item i||ab x.item (-1)))
theorem NY(x:PItem)(a i:Int):kP 142 [eI x,iV a,iV i] (.bool (rV x a i)):=by
  have hlk:=zH
  have rr0 b' (h:(rV x a i)=b':=by unfold rV;generalize ab x.act a=p1 at *;generalize ab x.kind 11=p2 at *;generalize ab x.item i=p3 at *;generalize ab x.item (-1)=p4 at *;generalize kT x.kind=p5 at *;simp only[aS,aj,bS, *]):=h;let q:=[av [iV x.kind,aW (x.at_.map az),aW (x.to.map az),iV x.where_,iV x.nth_,iV x.unit.act,iV x.unit.item,iV x.unit.n,iV x.unit.kind,ax x.unit.label,aW (x.unit.head.map aQ),aW (x.unit.words.map aQ),aW (x.unit.kids.map aU),aW (x.old.map nW),aW (x.new.map nW),ax x.label,ax x.for_,iV x.start.kind,iV x.start.day,ax x.start.event,iV x.act,iV x.item,iV x.day,ax x.event,aW (x.by_.map OW)]];let q1:=bV (bK 216) [] [];exact bB Tryz.func142<|Kc 5 x.act a (fun _ _=>Ky 0<|rr0 false) fun _ _=>Kj 2 x.kind 11 (fun _ _=>Kf 4<|cC<|rr0<|ab x.item i) fun _ _=>M3 (.efx true (AV.map 1)<|aa [aZ 25 false 0 q,AObj.map [AEnt.mk (iV 7) q1 0,AEnt.mk (iV 9) q1 1,AEnt.mk (iV 8) (bV (bK 218) [] []) 2] 3]) (et rt ti) (et (aJ<|some<|aZ 25 false 0 q) ti) (S2 x)<|K1 1 (.look<|b8 [rR x.kind,ez<|kT x.kind]) (hlk x.kind)<|Kb 6 (kT x.kind) (fun b=>Kt 0 b<|Kt 0 b<|Kt 0 b<|Kt 0 b<|Kj 0 x.item i (fun c _=>Mt c<|Mt c<|Mt b<|MV c<|MV b<|Ky 0<|rr0 true) fun c _=>Kh 0 c<|Kh 0 c<|Kt 0 b<|My c<|MV b<|Kf 0<|cC<|rr0<|ab x.item (-1)) fun b=>Mh b<|Mh b<|Mh b<|Mh b<|Mh b<|My b<|Ky 0<|rr0 false
noncomputable abbrev gF(nm:aP):AObj:=.row 1 false 0 [.str nm]
noncomputable def sY(nm:aP)(d:PDeed):Bool:=ab d.it.kind 10&&dP d.it.event nm
theorem Ri(nm:aP)(d:PDeed):kD 267 [aK d,.ptr 0 0 0 0] (aa [gF nm]) (.bool (sY nm d)) (aa [gF nm]):=by
  let q:=aa [aZ 1 false 0 [ax nm]];exact OE Tryz.func267<|Kj 6 d.it.kind 10 (fun a _=>Kt 0 a<|Kt 0 a<|Kt 0 a<|Kt 0 a<|Ku 0 a<|K1 0 (.frz 1 [3]) (et rt ti)<|Mf<|et (by unfold sY;generalize ab d.it.kind 10=p1 at *;generalize dP d.it.event nm=p2 at *;simp only[aS,aj,bS, *]:(AV.bool (dP d.it.event nm))=(AV.bool (sY nm d)))<|aJ q) fun a _=>Mh a<|Mh a<|Mh a<|Mh a<|My a<|K1 0 (.frz 1 [3]) (et rt ti)<|Mf<|et (by unfold sY;generalize ab d.it.kind 10=p1 at *;generalize dP d.it.event nm=p2 at *;simp only[aS,aj,bS, *]:(AV.bool false)=(AV.bool (sY nm d)))<|aJ q
noncomputable def jY(nm:aP):List PDeed->Nat->Int
  |[],_=> -1
  |d::r,i=>match sY nm d with|true=>Int.ofNat i|false=>jY nm r (i+1)
theorem Lt(nm:aP):∀(l:List PDeed)(i:Nat),jY nm l i<Int.ofNat (i+l.length)/\(0<=jY nm l i\/jY nm l i= -1)
  |[],i=>⟨by simp only[jY,oN];omega,.inr rfl⟩
  | d::r,i=>by
    have:=Lt nm r (i+1)
    cases h:sY nm d<;>simp only[jY,h,oN,lC]at * <;>omega
theorem ZZ{nm:aP}{d:PDeed}{r:List PDeed}{i:Nat}(h:sY nm d=true):jY nm (d::r) i=Int.ofNat i:=by simp only[jY,h]
theorem ZX{nm:aP}{d:PDeed}{r:List PDeed}{i:Nat}(h:sY nm d=false):jY nm (d::r) i=jY nm r (i+1):=by simp only[jY,h]
theorem CM(nm:aP)(l:List PDeed)(hl:l.length<2^40):kD 121 [.ls (l.map aK),.func (.func 267) [] [.ptr 0 0 0 0]] (aa [gF nm]) (iV (jY nm l 0)) (aa [gF nm]):=by
  let q:=aa [aZ 1 false 0 [ax nm]];exact OE Tryz.func121<|Kl 2 7 (ln aK l)<|Mg 0<|vZ aK l [0,1,7,8] (fun a _=>([aW<|l.map aK,bV (bK 267) [] [bX 0 0 0 0],nV l.length,nV a],[aZ 1 false 0 [ax nm]])) (fun a=>jY nm l (0:Nat)=jY nm a (l.length-a.length)) (by(rw[Nat.sub_self])) (fun _ _ _ _ _ a b=>Kh 0 a<|Kf 0<|et (by(rw[b];rfl):(iV (-1))=(iV (jY nm l 0)))<|aJ q) fun a _ b _ c d e f g _ h i=>have:=iq b f;Kt 0 g<|Kx 4 h<|Ke 0 (Ri nm c)<|Mb (sY nm c) (fun _=>Kf 1<|et (by(rw[i,ZZ (by assumption)];congr 2;have z:=II (b.trans f) (by simp) (by simp only[lC];omega:(l.length-(d.length+1))+(c::d).length=l.length);exact z):(nV a)=(iV (jY nm l 0)))<|aJ q) fun _=>Kl 0 18 (dB a)<|Kf 0<|e<|by(rw[i,ZX (by assumption)];congr 1;have:=iq b f;simp only[lC];omega)
theorem Rh(d:Int):kP 216 [.nils,iV d] (.ls ((pO [] d).map aY)):=(Rg [] d (by simp)).onArgs (.cons Le.nils (.cons (Le.refl _) .nil))
theorem Jp(nm:aP)(l:List PDeed)(hl:l.length<2^40)(h:au (jY nm l 0) 0=true):kP 217 [.str nm,.ls (l.map aK)] (.tuple [iV 0,.bool false]):=by
  exact bB Tryz.func217<|Ke 4 (CM nm l hl)<|Kt 2 h<|Kf 1<|bx<|b8 [iV 0,ez false]
theorem Jr(nm:aP)(l:List PDeed)(hl:l.length<2^40)(h:au (jY nm l 0) 0=false):kP 217 [.str nm,.ls (l.map aK)] (.tuple [iV (gD l (jY nm l 0).toNat).it.day,.bool true]):=by
  have g1:=aB h
  have g2:=(Lt nm l 0).1
  exact bB Tryz.func217<|Ke 4 (CM nm l hl)<|Kh 2 h<|Kl 1 13 (BU (x:=jY nm l 0) oA)<|Mx (bQ aK (by(simp only[oN,lM,lS]at *;omega):(jY nm l 0).toNat<(l).length))<|Kf 4<|bx<|b8 [iV (gD l (jY nm l 0).toNat).it.day,ez true]
noncomputable def lp(s:PStart)(l:List PDeed):List PSpan:=match ab s.kind 1 with|true=>pO [] s.day|false=>match ab s.kind 3 with|true=>(match au (jY s.event l 0) 0 with|true=>[]|false=>pO [] (gD l (jY s.event l 0).toNat).it.day)|false=>[]
theorem NH(s:PStart)(l:List PDeed)(hl:l.length<2^40)(hi:au (jY s.event l 0) 0=true):kP 139 [ao s,.ls (l.map aK)] (.ls ((lp s l).map aY)):=by
  have he:=Jp s.event l hl hi
  have e:lp s l=match ab s.kind 1 with|true=>pO [] s.day|false=>[]:=(by unfold lp;rw[hi];cases ab s.kind 1<;>cases ab s.kind 3<;>rfl)
  rw[e]
  have rr0 b' (h:((match ab s.kind 1 with|true=>pO [] s.day|false=>[]).map aY)=b':=by generalize ab s.kind 1=p1 at *;(rw[h0]);try rfl):=h;exact bB Tryz.func139<|Kj 5 s.kind 1 (fun h0 _=>Kp 1 (Rh s.day)<|Kf 0<|cY<|rr0<|(pO [] s.day).map aY) fun h0 _=>Kj 1 s.kind 3 (fun _ _=>Kp 2 he<|Kf 7 (Le.lsn<|rr0 []:Le _ (ak))) fun _ _=>Kf 0 (Le.lsn<|rr0 []:Le _ (ak))
theorem NI(s:PStart)(l:List PDeed)(hl:l.length<2^40)(hi:au (jY s.event l 0) 0=false):kP 139 [ao s,.ls (l.map aK)] (.ls ((lp s l).map aY)):=by
  have he:=Jr s.event l hl hi
  have e:lp s l=match ab s.kind 1 with|true=>pO [] s.day|false=>match ab s.kind 3 with|true=>pO [] (gD l (jY s.event l 0).toNat).it.day |false=>[]:=(by unfold lp;rw[hi])
  rw[e]
  have rr0 b' (h:((match ab s.kind 1 with|true=>pO [] s.day|false=>match ab s.kind 3 with|true=>pO [] (gD l (jY s.event l 0).toNat).it.day |false=>[]).map aY)=b':=by generalize ab s.kind 1=p1 at *;generalize ab s.kind 3=p3 at *;(rw[h0]);(first|rw[h1]|skip);try rfl):=h;exact bB Tryz.func139<|Kj 5 s.kind 1 (fun h0 _=>Kp 1 (Rh s.day)<|Kf 0<|cY<|rr0<|(pO [] s.day).map aY) fun h0 _=>Kj 1 s.kind 3 (fun h1 _=>Kp 2 he<|Kp 7 (Rh (gD l (jY s.event l 0).toNat).it.day)<|Kf 0<|cY<|rr0<|(pO [] (gD l (jY s.event l 0).toNat).it.day).map aY) fun h1 _=>Kf 0 (Le.lsn<|rr0 []:Le _ (ak))
theorem Ja(s:PStart)(l:List PDeed)(hl:l.length<2^40):kP 139 [ao s,.ls (l.map aK)] (.ls ((lp s l).map aY)):=by
  cases hi:au (jY s.event l 0) 0
  · exact NI s l hl hi
  · exact NH s l hl hi
noncomputable def sf(d o:PDeed)(days:List PSpan):List PSpan:=match kT o.it.kind&&rV o.it d.act d.item with|true=>(match sJ o.it.kind with|true=>pO days o.it.day|false=>oT days o.it.day)|false=>days
noncomputable def mZ(d:PDeed):List PDeed->List PSpan->List PSpan
  |[],days=>days
  |o::r,days=>mZ d r (sf d o days)
noncomputable def dm(s:PStart)(d:PDeed)(l:List PDeed):List PSpan:=match au d.it.kind 0||au 6 d.it.kind with|true=>[]|false=>mZ d l (lp (effS s d.it.start) l)
theorem NL(s:PStart)(l:List PDeed):(lp s l).length<=1048577:=by
  have h:=fun d=>(ue [] d).len
  unfold lp
  cases ab s.kind 1<;>cases ab s.kind 3<;>cases au (jY s.event l 0) 0<;>simp only[lN]<;>first|exact h _|omega
theorem m6(s:PStart)(d:PDeed)(l:List PDeed)(hl:l.length<2^40):kP 96 [ao s,aK d,.ls (l.map aK)] (.ls ((dm s d l).map aY)):=by
  have hlk:=zH
  have hle1:∀k,sJ k=true->Le (.func (.func 216) [] []) (rR k):=fun k h=>Pq h
  have hle2:∀k,sJ k=false->kT k=true->Le (.func (.func 218) [] []) (rR k):=fun k h h2=>S4 h h2
  have hil:=NL (effS s d.it.start) l
  have hin:∀b,(au d.it.kind 0||au 6 d.it.kind)=b->dm s d l=match b with|true=>[]|false=>mZ d l (lp (effS s d.it.start) l):=fun b h=>by unfold dm;rw[h]
  have hst:∀(o:PDeed)(r:List PDeed)(days:List PSpan),mZ d (o::r) days=mZ d r (sf d o days):=fun o r days=>rfl
  have rr0 b' (h:((dm s d l).map aY)=b':=by first|(rw[hin true (by simp only[aS,aj,bS, *];try rfl)];rfl)|(rw[hin false (by simp only[aS,aj,bS, *];try rfl)];first|exact congrArg _ hj0.2|exact congrArg _ hj0.2.symm|(rw[hj0.2];rfl))):=h;let q1:=[av [iV d.act,iV d.item,iV d.day,iV d.it.kind,aW (d.it.at_.map az),aW (d.it.to.map az),iV d.it.where_,iV d.it.nth_,iV d.it.unit.act,iV d.it.unit.item,iV d.it.unit.n,iV d.it.unit.kind,ax d.it.unit.label,aW (d.it.unit.head.map aQ),aW (d.it.unit.words.map aQ),aW (d.it.unit.kids.map aU),aW (d.it.old.map nW),aW (d.it.new.map nW),ax d.it.label,ax d.it.for_,iV d.it.start.kind,iV d.it.start.day,ax d.it.start.event,iV d.it.act,iV d.it.item,iV d.it.day,ax d.it.event,aW (d.it.by_.map OW)]];let q2:=[av [iV s.kind,iV s.day,ax s.event]];let q3:=bV (bK 216) [] [];exact bB Tryz.func96<|Ka 7 d.it.kind 0 (fun a _=>Mt a<|Mt a<|Mt a<|MV a<|Kf 1 (Le.lsn<|rr0 []:Le _ (ak))) fun a _=>Kh 0 a<|Kh 0 a<|Kh 0 a<|Kw 0 a<|Mb (au 6 d.it.kind) (fun a=>have:=ap a;Kf 0 (Le.lsn<|rr0 []:Le _ (ak))) fun a=>have:=aB a;Kp 3 (Hr s d.it.start)<|Kp 0 (Ja (effS s d.it.start) l hl)<|Kl 2 30 (ln aK l)<|Mg 0<|Vo (0:Nat) l (lp (effS s d.it.start) l) [4,7,29,30,31] (fun a _ c=>([bX 1 0 0 0,aW<|c.map aY,aW<|l.map aK,nV l.length,nV a],[aZ 3 false 0 [av [iV s.kind,iV s.day,ax s.event]],aZ 28 false 0 [av [iV d.act,iV d.item,iV d.day,iV d.it.kind,aW<|d.it.at_.map az,aW<|d.it.to.map az,iV d.it.where_,iV d.it.nth_,iV d.it.unit.act,iV d.it.unit.item,iV d.it.unit.n,iV d.it.unit.kind,ax d.it.unit.label,aW<|d.it.unit.head.map aQ,aW<|d.it.unit.words.map aQ,aW<|d.it.unit.kids.map aU,aW<|d.it.old.map nW,aW<|d.it.new.map nW,ax d.it.label,ax d.it.for_,iV d.it.start.kind,iV d.it.start.day,ax d.it.start.event,iV d.it.act,iV d.it.item,iV d.it.day,ax d.it.event,aW<|d.it.by_.map OW]]])) (fun a c e=>(l).drop a=c/\e.length<=1048577/\mZ d l (lp (effS s d.it.start) l)=mZ d c e) (fun _ a _=>a.length) (et rfl<|by(exact⟨hil,rfl⟩)) fun a c e f g=>Mc c (fun a=>have c:=gx f.1 a;have hj0:=jJ (J:=fun a c=>c.length<=1048577/\mZ d l (lp (effS s d.it.start) l)=mZ d a c) (a:=e) a f.2;Kh 0 c<|Kf 1<|cY<|rr0<|e.map aY) fun c i j=>let m:=[av [iV c.act,iV c.item,iV c.day,iV c.it.kind,aW<|c.it.at_.map az,aW<|c.it.to.map az,iV c.it.where_,iV c.it.nth_,iV c.it.unit.act,iV c.it.unit.item,iV c.it.unit.n,iV c.it.unit.kind,ax c.it.unit.label,aW<|c.it.unit.head.map aQ,aW<|c.it.unit.words.map aQ,aW<|c.it.unit.kids.map aU,aW<|c.it.old.map nW,aW<|c.it.new.map nW,ax c.it.label,ax c.it.for_,iV c.it.start.kind,iV c.it.start.day,ax c.it.start.event,iV c.it.act,iV c.it.item,iV c.it.day,ax c.it.event,aW<|c.it.by_.map OW]];have n:=gc f.1 j;have:=ap n;have p:=gz (enc:=aK) f.1 j;have hj0:=cT (J:=fun a c=>c.length<=1048577/\mZ d l (lp (effS s d.it.start) l)=mZ d a c) (a:=e) j f.2;Kt 0 n<|Mx p<|Mg 2<|M3 (.efx true (AV.map 3)<|aa [aZ 3 false 0 q2,aZ 28 false 0 q1,aZ 28 false 0 m,AObj.map [AEnt.mk (iV 7) q3 0,AEnt.mk (iV 9) q3 1,AEnt.mk (iV 8) (bV (bK 218) [] []) 2] 3]) (ju rt rt rt ti) (ju (aJ<|some<|aZ 28 false 0 m) (aJ<|some<|aZ 28 false 0 q1) (aJ<|some<|aZ 3 false 0 q2) ti) (S3 s d c)<|K1 2 (.look<|b8 [rR c.it.kind,ez<|kT c.it.kind]) (hlk c.it.kind)<|Kb 6 (kT c.it.kind) (fun m=>Kt 0 m<|Kt 0 m<|Kt 0 m<|Kt 0 m<|Kt 0 m<|Kt 0 m<|Mp (NY c.it d.act d.item)<|MV m<|Mb (rV c.it d.act d.item) (fun _=>Ks 4 (sJ c.it.kind) (fun m=>Ml 53 (hle1 c.it.kind m)<|Mp (Rg e c.it.day oA)<|Kl 1 59 (dB a)<|K1 0 (.frz 2 [4,7,29,30,31]) (co rt rt ti)<|Mf<|g (a+1) i (pO e c.it.day) (et (bN f.1 j)<|by exact⟨(ue _ _).len,by rw[hj0.2,hst];simp only[sf, *];rfl⟩)<|fF j) fun n=>Ml 53 (hle2 c.it.kind n m)<|Mp (Fc e c.it.day oA)<|Kl 1 59 (dB a)<|K1 0 (.frz 2 [4,7,29,30,31]) (co rt rt ti)<|Mf<|g (a+1) i (oT e c.it.day) (et (bN f.1 j)<|by exact⟨(sa _ _).len,by rw[hj0.2,hst];simp only[sf, *];rfl⟩)<|fF j) fun _=>Kl 0 59 (dB a)<|K1 0 (.frz 2 [4,7,29,30,31]) (co rt rt ti)<|Mf<|g (a+1) i e (et (bN f.1 j)<|by exact⟨hj0.1,by rw[hj0.2,hst];simp only[sf,aS,aj,bS, *];try rfl⟩)<|fF j) fun c=>Mh c<|Mh c<|Mh c<|Mh c<|Mh c<|Mh c<|My c<|Kl 1 59 (dB a)<|K1 0 (.frz 2 [4,7,29,30,31]) (co rt rt ti)<|Mf<|g (a+1) i e (et (bN f.1 j)<|by exact⟨hj0.1,by rw[hj0.2,hst];simp only[sf,aS,aj,bS, *];try rfl⟩)<|fF j
noncomputable abbrev iF(d:Int):AObj:=.row 1 false 0 [iV d]
noncomputable abbrev qo:AObj:=.row 1 false 0 [.nils]
noncomputable abbrev pP(i ep n:Nat):AObj:=.row 1 false 0 [.slice i ep 0 n none]
noncomputable abbrev dj(m:List (Int×PStart)):AObj:=.map (bD ao m 0) m.length
noncomputable abbrev gC(d:PDeed):AObj:=.row 28 false 0 [aK d]
noncomputable abbrev ie(ep:Nat)(l:List PDeed):AObj:=.row 28 true ep (l.map aK)
def dF:PStart:=⟨0,0,[]⟩
def dK(m:List (Int×PStart))(k:Int):PStart:=(gh k m).getD dF
theorem zL(m:List (Int×PStart))(k:Int):eM (some (.agg [iV 0,iV 0,.str []])) false (ba false 1 [(0,1)] (iV k) (bD ao m 0) 0)=some (ao (dK m k)):=by
  rw[zN]
  cases h:gh k m<;>simp only[dK,h,Option.getD]<;>rfl
theorem B9(m:List (Int×PStart))(a:PAct):rD (bD ao m 0) m.length (iV a.number) (.agg [iV a.start.kind,iV a.start.day,.str a.start.event]) (ba false 1 [(0,1)] (iV a.number) (bD ao m 0) 0)=some (bD ao (jv a.number a.start m) 0,(jv a.number a.start m).length):=CQ (f:=ao) a.number a.start m
def xH(l:List PAct)(m:List (Int×PStart)):List (Int×PStart):=l.foldl (fun m a=>jv a.number a.start m) m
theorem GL(s:PStart)(d:PDeed)(l:List PDeed):NrmS (dm s d l):=by
  have h1:∀(s:PStart),NrmS (lp s l):=fun s=>by
    unfold lp
    cases ab s.kind 1<;>cases ab s.kind 3<;>cases au (jY s.event l 0) 0<;>first|exact xS|exact ue _ _
  have h2:∀(r:List PDeed)(days:List PSpan),NrmS days->NrmS (mZ d r days):=by
    intro r
    induction r with
    |nil=>intro days h;exact h
    | cons o r ih=>
      intro days h
      refine ih _ ?_
      unfold sf
      cases kT o.it.kind&&rV o.it d.act d.item<;>cases sJ o.it.kind<;>first|exact h|exact ue _ _|exact sa _ _
  unfold dm
  cases au d.it.kind 0||au 6 d.it.kind
  · exact h2 l _ (h1 _)
  · exact xS
theorem mW(s:PStart)(d:PDeed)(l:List PDeed)(day:Int):kP 57 [.ls ((dm s d l).map aY),iV day] (.bool (ii (dm s d l) day)):=by
  have hn:=GL s d l
  have h:=HG (dm s d l) day (nl hn.len (by decide))
  rwa[show i7 (dm s d l)=dm s d l from(TG hn).symm]at h
noncomputable def Xe(p:aP)(d:PDeed):Bool:=dP d.it.for_ []||dP d.it.for_ p
noncomputable def Cg(day:Int)(p:aP)(m:List (Int×PStart))(ds:List PDeed)(d:PDeed):Bool:=Xe p d&&ii (dm (dK m d.act) d ds) day
noncomputable def sX(day:Int)(p:aP)(m:List (Int×PStart))(ds l:List PDeed):List PDeed:=l.filter fun d=>fN d.it.kind&&Cg day p m ds d
theorem Z5(d:PDeed)(ss:List PSpan)(day:Int)(p:aP)(m:List (Int×PStart))(hc:kP 57 [.ls (ss.map aY),iV day] (.bool false)):kD 56 [aK d,.ls (ss.map aY),.ptr 1 0 0 0,.ptr 0 0 0 0,.ptr 2 0 0 0] (aa [iF day,gF p,qo,dj m,gC d]) (.tuple []) (aa [iF day,gF p,qo,dj m,gC d]):=by
  exact fu Tryz.func56 fun a=>Kb 5 (dP d.it.for_ (ByteArray.mk #[]).data.toList) (fun b=>Mt b<|Mt b<|Mt b<|Mt b<|MV b<|Kp 2 hc<|K1 1 (.frz 5 []) (yK rt (tM m.length 5<|aE (f:=ao) (fun _=>rfl) m 0) rt rt rt ti)<|Mf a) fun b=>Kh 0 b<|Kh 0 b<|Kh 0 b<|Kh 0 b<|Kw 0 b<|Kb 0 (dP d.it.for_ p) (fun b=>Kt 0 b<|Kt 0 b<|Mp hc<|MV b<|K1 0 (.frz 5 []) (yK rt (tM m.length 5<|aE (f:=ao) (fun _=>rfl) m 0) rt rt rt ti)<|Mf a) fun b=>Mh b<|Mh b<|My b<|K1 0 (.frz 5 []) (yK rt (tM m.length 5<|aE (f:=ao) (fun _=>rfl) m 0) rt rt rt ti)<|Mf a
theorem Z4(d:PDeed)(ss:List PSpan)(day:Int)(p:aP)(m:List (Int×PStart))(h1:dP d.it.for_ []=false)(h2:dP d.it.for_ p=false):kD 56 [aK d,.ls (ss.map aY),.ptr 1 0 0 0,.ptr 0 0 0 0,.ptr 2 0 0 0] (aa [iF day,gF p,qo,dj m,gC d]) (.tuple []) (aa [iF day,gF p,qo,dj m,gC d]):=by
  exact fu Tryz.func56 fun a=>Kh 5 h1<|Kh 0 h1<|Kh 0 h1<|Kh 0 h1<|Kh 0 h1<|Kw 0 h1<|Kh 0 h2<|Mh h2<|Mh h2<|My h2<|K1 0 (.frz 5 []) (yK rt (tM m.length 5<|aE (f:=ao) (fun _=>rfl) m 0) rt rt rt ti)<|Mf a
theorem Z3(d:PDeed)(ss:List PSpan)(day:Int)(p:aP)(m:List (Int×PStart))(hc:kP 57 [.ls (ss.map aY),iV day] (.bool true))(h1:dP d.it.for_ []=true):kD 56 [aK d,.ls (ss.map aY),.ptr 1 0 0 0,.ptr 0 0 0 0,.ptr 2 0 0 0] (aa [iF day,gF p,qo,dj m,gC d]) (.tuple []) (aa [iF day,gF p,pP 5 0 1,dj m,gC d,ie 0 [d]]):=by
  exact fu Tryz.func56 fun a=>Kt 5 h1<|Mt h1<|Mt h1<|Mt h1<|Mt h1<|MV h1<|Kp 2 hc<|K1 6 (.ren [0,1,2,3,4,6,5] [3] []) (tN m.length<|aE (f:=ao) (fun _=>rfl) m 0)<|M1 (.frz 6 []) (N7 rt rt (tM m.length 6<|aE (f:=ao) (fun _=>rfl) m 0) rt rt rt ti)<|Mf a
theorem Z2(d:PDeed)(ss:List PSpan)(day:Int)(p:aP)(m:List (Int×PStart))(hc:kP 57 [.ls (ss.map aY),iV day] (.bool true))(h1:dP d.it.for_ []=false)(h2:dP d.it.for_ p=true):kD 56 [aK d,.ls (ss.map aY),.ptr 1 0 0 0,.ptr 0 0 0 0,.ptr 2 0 0 0] (aa [iF day,gF p,qo,dj m,gC d]) (.tuple []) (aa [iF day,gF p,pP 5 0 1,dj m,gC d,ie 0 [d]]):=by
  exact fu Tryz.func56 fun a=>Kh 5 h1<|Kh 0 h1<|Kh 0 h1<|Kh 0 h1<|Kh 0 h1<|Kw 0 h1<|Kt 0 h2<|Kt 0 h2<|Kt 0 h2<|Mp hc<|MV h2<|K1 5 (.ren [0,1,2,3,4,6,5] [3] []) (tN m.length<|aE (f:=ao) (fun _=>rfl) m 0)<|M1 (.frz 6 []) (N7 rt rt (tM m.length 6<|aE (f:=ao) (fun _=>rfl) m 0) rt rt rt ti)<|Mf a
theorem Z1(d:PDeed)(ss:List PSpan)(day:Int)(p:aP)(m:List (Int×PStart))(ep n:Nat)(out:List PDeed)(hc:kP 57 [.ls (ss.map aY),iV day] (.bool false)):kD 56 [aK d,.ls (ss.map aY),.ptr 1 0 0 0,.ptr 0 0 0 0,.ptr 2 0 0 0] (aa [iF day,gF p,pP 4 ep n,dj m,ie ep out,gC d]) (.tuple []) (aa [iF day,gF p,pP 4 ep n,dj m,ie ep out,gC d]):=by
  exact fu Tryz.func56 fun a=>Kb 5 (dP d.it.for_ (ByteArray.mk #[]).data.toList) (fun b=>Mt b<|Mt b<|Mt b<|Mt b<|MV b<|Kp 2 hc<|K1 1 (.frz 6 []) (N7 rt (tR 28 true ep 6<|aX xV out) (tM m.length 6<|aE (f:=ao) (fun _=>rfl) m 0) rt rt rt ti)<|Mf a) fun b=>Kh 0 b<|Kh 0 b<|Kh 0 b<|Kh 0 b<|Kw 0 b<|Kb 0 (dP d.it.for_ p) (fun b=>Kt 0 b<|Kt 0 b<|Mp hc<|MV b<|K1 0 (.frz 6 []) (N7 rt (tR 28 true ep 6<|aX xV out) (tM m.length 6<|aE (f:=ao) (fun _=>rfl) m 0) rt rt rt ti)<|Mf a) fun b=>Mh b<|Mh b<|My b<|K1 0 (.frz 6 []) (N7 rt (tR 28 true ep 6<|aX xV out) (tM m.length 6<|aE (f:=ao) (fun _=>rfl) m 0) rt rt rt ti)<|Mf a
theorem Z0(d:PDeed)(ss:List PSpan)(day:Int)(p:aP)(m:List (Int×PStart))(ep n:Nat)(out:List PDeed)(h1:dP d.it.for_ []=false)(h2:dP d.it.for_ p=false):kD 56 [aK d,.ls (ss.map aY),.ptr 1 0 0 0,.ptr 0 0 0 0,.ptr 2 0 0 0] (aa [iF day,gF p,pP 4 ep n,dj m,ie ep out,gC d]) (.tuple []) (aa [iF day,gF p,pP 4 ep n,dj m,ie ep out,gC d]):=by
  exact fu Tryz.func56 fun a=>Kh 5 h1<|Kh 0 h1<|Kh 0 h1<|Kh 0 h1<|Kh 0 h1<|Kw 0 h1<|Kh 0 h2<|Mh h2<|Mh h2<|My h2<|K1 0 (.frz 6 []) (N7 rt (tR 28 true ep 6<|aX xV out) (tM m.length 6<|aE (f:=ao) (fun _=>rfl) m 0) rt rt rt ti)<|Mf a
theorem ZT(d:PDeed)(ss:List PSpan)(day:Int)(p:aP)(m:List (Int×PStart))(ep n:Nat)(out:List PDeed)(hn:n=out.length)(hn2:n<2^20)(hc:kP 57 [.ls (ss.map aY),iV day] (.bool true))(h1:dP d.it.for_ []=true):kD 56 [aK d,.ls (ss.map aY),.ptr 1 0 0 0,.ptr 0 0 0 0,.ptr 2 0 0 0] (aa [iF day,gF p,pP 4 ep n,dj m,ie ep out,gC d]) (.tuple []) (aa [iF day,gF p,pP 4 (ep+1) (n+1),dj m,ie (ep+1) (out++[d]),gC d]):=by
  exact fu Tryz.func56 fun a=>Kt 5 h1<|Mt h1<|Mt h1<|Mt h1<|Mt h1<|MV h1<|Kp 2 hc<|K1 4 .app (co (aJ ep) (by(rw[lM];exact hn):n=(out.map aK).length) (by exact ec (m:=2^21) (by omega) (by decide) (by decide):small (n+1) 392=true))<|M1 (.obj 4<|aZ 28 true (ep+1)<|(out++[d]).map aK) (congrArg (aZ 28 true<|ep+1)<|dw (f:=aK) (l:=out) (ws:=[d]))<|K1 0 (.frz 6 []) (N7 rt (tR 28 true (ep+1) 6<|aX xV<|out++[d]) (tM m.length 6<|aE (f:=ao) (fun _=>rfl) m 0) rt rt rt ti)<|Mf a
theorem ZS(d:PDeed)(ss:List PSpan)(day:Int)(p:aP)(m:List (Int×PStart))(ep n:Nat)(out:List PDeed)(hn:n=out.length)(hn2:n<2^20)(hc:kP 57 [.ls (ss.map aY),iV day] (.bool true))(h1:dP d.it.for_ []=false)(h2:dP d.it.for_ p=true):kD 56 [aK d,.ls (ss.map aY),.ptr 1 0 0 0,.ptr 0 0 0 0,.ptr 2 0 0 0] (aa [iF day,gF p,pP 4 ep n,dj m,ie ep out,gC d]) (.tuple []) (aa [iF day,gF p,pP 4 (ep+1) (n+1),dj m,ie (ep+1) (out++[d]),gC d]):=by
  exact fu Tryz.func56 fun a=>Kh 5 h1<|Kh 0 h1<|Kh 0 h1<|Kh 0 h1<|Kh 0 h1<|Kw 0 h1<|Kt 0 h2<|Kt 0 h2<|Kt 0 h2<|Mp hc<|MV h2<|K1 3 .app (co (aJ ep) (by(rw[lM];exact hn):n=(out.map aK).length) (by exact ec (m:=2^21) (by omega) (by decide) (by decide):small (n+1) 392=true))<|M1 (.obj 4<|aZ 28 true (ep+1)<|(out++[d]).map aK) (congrArg (aZ 28 true<|ep+1)<|dw (f:=aK) (l:=out) (ws:=[d]))<|K1 0 (.frz 6 []) (N7 rt (tR 28 true (ep+1) 6<|aX xV<|out++[d]) (tM m.length 6<|aE (f:=ao) (fun _=>rfl) m 0) rt rt rt ti)<|Mf a
theorem VH{day:Int}{p:aP}{m:List (Int×PStart)}{ds:List PDeed}{d:PDeed}(h:Cg day p m ds d=false):kP 57 [.ls ((dm (dK m d.act) d ds).map aY),iV day] (.bool false)\/(dP d.it.for_ []=false/\dP d.it.for_ p=false):=by
  unfold Cg Xe at h
  have hz:=mW (dK m d.act) d ds day
  cases q:ii (dm (dK m d.act) d ds) day with
  |false=>rw[q]at hz;exact .inl hz
  |true=>rw[q,Bool.and_true,BN]at h;exact .inr h
theorem P4{day:Int}{p:aP}{m:List (Int×PStart)}{ds:List PDeed}{d:PDeed}(h:Cg day p m ds d=true):kP 57 [.ls ((dm (dK m d.act) d ds).map aY),iV day] (.bool true)/\(dP d.it.for_ []=true\/(dP d.it.for_ []=false/\dP d.it.for_ p=true)):=by
  unfold Cg Xe at h
  obtain⟨h1,h2⟩:=pB.1 h
  have hz:=mW (dK m d.act) d ds day
  rw[h2]at hz
  refine⟨hz,?_⟩
  cases q:dP d.it.for_ []with
  |true=>exact .inl rfl
  |false=>rw[q,Bool.false_or]at h1;exact .inr ⟨rfl,h1⟩
theorem YO(day:Int)(p:aP)(m:List (Int×PStart))(ds:List PDeed)(d:PDeed)(hb:Cg day p m ds d=false):kD 56 [aK d,.ls ((dm (dK m d.act) d ds).map aY),.ptr 1 0 0 0,.ptr 0 0 0 0,.ptr 2 0 0 0] (aa [iF day,gF p,qo,dj m,gC d]) (.tuple []) (aa [iF day,gF p,qo,dj m,gC d]):=by
  rcases VH hb with h|⟨h1,h2⟩
  · exact Z5 d _ day p m h
  · exact Z4 d _ day p m h1 h2
theorem Z9(day:Int)(p:aP)(m:List (Int×PStart))(ds:List PDeed)(d:PDeed)(hb:By (Cg day p m ds d) false):kD 56 [aK d,.ls ((dm (dK m d.act) d ds).map aY),.ptr 1 0 0 0,.ptr 0 0 0 0,.ptr 2 0 0 0] (aa [iF day,gF p,qo,dj m,gC d]) (.tuple []) (aa [iF day,gF p,qo,dj m,gC d]):=YO day p m ds d hb
theorem Z8(day:Int)(p:aP)(m:List (Int×PStart))(ds:List PDeed)(d:PDeed)(hb:By (Cg day p m ds d) true):kD 56 [aK d,.ls ((dm (dK m d.act) d ds).map aY),.ptr 1 0 0 0,.ptr 0 0 0 0,.ptr 2 0 0 0] (aa [iF day,gF p,qo,dj m,gC d]) (.tuple []) (aa [iF day,gF p,pP 5 0 1,dj m,gC d,ie 0 [d]]):=by
  obtain⟨h,h1|⟨h1,h2⟩⟩:=P4 hb
  · exact Z3 d _ day p m h h1
  · exact Z2 d _ day p m h h1 h2
theorem Z7(day:Int)(p:aP)(m:List (Int×PStart))(ds:List PDeed)(d:PDeed)(ep n:Nat)(out:List PDeed)(hb:By (Cg day p m ds d) false):kD 56 [aK d,.ls ((dm (dK m d.act) d ds).map aY),.ptr 1 0 0 0,.ptr 0 0 0 0,.ptr 2 0 0 0] (aa [iF day,gF p,pP 4 ep n,dj m,ie ep out,gC d]) (.tuple []) (aa [iF day,gF p,pP 4 ep n,dj m,ie ep out,gC d]):=by
  rcases VH hb with h|⟨h1,h2⟩
  · exact Z1 d _ day p m ep n out h
  · exact Z0 d _ day p m ep n out h1 h2
theorem Z6(day:Int)(p:aP)(m:List (Int×PStart))(ds:List PDeed)(d:PDeed)(ep n:Nat)(out:List PDeed)(hb:By (Cg day p m ds d) true)(hn:n=out.length)(hn2:n<2^20):kD 56 [aK d,.ls ((dm (dK m d.act) d ds).map aY),.ptr 1 0 0 0,.ptr 0 0 0 0,.ptr 2 0 0 0] (aa [iF day,gF p,pP 4 ep n,dj m,ie ep out,gC d]) (.tuple []) (aa [iF day,gF p,pP 4 (ep+1) (n+1),dj m,ie (ep+1) (out++[d]),gC d]):=by
  obtain⟨h,h1|⟨h1,h2⟩⟩:=P4 hb
  · exact ZT d _ day p m ep n out hn hn2 h h1
  · exact ZS d _ day p m ep n out hn hn2 h h1 h2
theorem P7{day:Int}{p:aP}{m:List (Int×PStart)}{ds r:List PDeed}{d:PDeed}(h:fN d.it.kind=false):sX day p m ds (d::r)=sX day p m ds r:=by simp only[sX,List.filter_cons,h,Bool.false_and];rfl
theorem P6{day:Int}{p:aP}{m:List (Int×PStart)}{ds r:List PDeed}{d:PDeed}(h:Cg day p m ds d=false):sX day p m ds (d::r)=sX day p m ds r:=by simp only[sX,List.filter_cons,h,yh];rfl
theorem P5{day:Int}{p:aP}{m:List (Int×PStart)}{ds r:List PDeed}{d:PDeed}(h:fN d.it.kind=true)(h2:Cg day p m ds d=true):sX day p m ds (d::r)=d::sX day p m ds r:=by simp only[sX,List.filter_cons,h,h2];rfl
structure OnA(day:Int)(p:aP)(m:List (Int×PStart))(ds r:List PDeed):Prop where
  f:sX day p m ds ds=sX day p m ds r
structure OnR(day:Int)(p:aP)(m:List (Int×PStart))(ds r:List PDeed)(ep n:Nat)(out:List PDeed):Prop where
  len:n=out.length
  ep:ep+1=out.length
  small:out.length+r.length<=ds.length
  f:sX day p m ds ds=out++sX day p m ds r
theorem OnA.no{day:Int}{p:aP}{m:List (Int×PStart)}{ds r:List PDeed}{d:PDeed}(h:OnA day p m ds (d::r))(ha:fN d.it.kind=false):OnA day p m ds r:=⟨by rw[h.f,P7 ha]⟩
theorem OnA.nil{day:Int}{p:aP}{m:List (Int×PStart)}{ds r:List PDeed}{d:PDeed}(h:OnA day p m ds (d::r))(hb:Cg day p m ds d=false):OnA day p m ds r:=⟨by rw[h.f,P6 hb]⟩
theorem OnA.new{day:Int}{p:aP}{m:List (Int×PStart)}{ds r:List PDeed}{d:PDeed}{n:Nat}(h:OnA day p m ds (d::r))(hl:(d::r).length<=ds.length)(ha:fN d.it.kind=true)(hb:Cg day p m ds d=true)(hn:n=1):OnR day p m ds r 0 n [d]:=⟨hn,rfl,by simp only[lC,lN]at *;omega,by rw[h.f,P5 ha hb];rfl⟩
theorem OnR.no{day:Int}{p:aP}{m:List (Int×PStart)}{ds r:List PDeed}{d:PDeed}{ep n:Nat}{out:List PDeed}(h:OnR day p m ds (d::r) ep n out)(ha:fN d.it.kind=false):OnR day p m ds r ep n out:=⟨h.len,h.ep,by have:=h.small;simp only[lC]at this;omega,by rw[h.f,P7 ha]⟩
theorem OnR.nil{day:Int}{p:aP}{m:List (Int×PStart)}{ds r:List PDeed}{d:PDeed}{ep n:Nat}{out:List PDeed}(h:OnR day p m ds (d::r) ep n out)(hb:Cg day p m ds d=false):OnR day p m ds r ep n out:=⟨h.len,h.ep,by have:=h.small;simp only[lC]at this;omega,by rw[h.f,P6 hb]⟩
theorem OnR.new{day:Int}{p:aP}{m:List (Int×PStart)}{ds r:List PDeed}{d:PDeed}{ep n k:Nat}{out:List PDeed}(h:OnR day p m ds (d::r) ep n out)(ha:fN d.it.kind=true)(hb:Cg day p m ds d=true)(hk:k=n+1):OnR day p m ds r (ep+1) k (out++[d]):=by
  have:=h.len;have:=h.ep;have:=h.small
  refine⟨?_,?_,?_,by rw[h.f,P5 ha hb,jj];rfl⟩<;>simp only[lA,lC,lN]at * <;>omega
theorem OnR.done{day:Int}{p:aP}{m:List (Int×PStart)}{ds:List PDeed}{ep n:Nat}{out:List PDeed}(h:OnR day p m ds [] ep n out):ep=(sX day p m ds ds).length -1/\n=(sX day p m ds ds).length/\out=sX day p m ds ds:=by
  have e:sX day p m ds ds=out:=by rw[h.f];exact ej _
  have:=h.len;have:=h.ep
  rw[e];exact⟨by omega,by omega,rfl⟩
theorem Wn{α:Type}{l r:List α}{j:Nat}{a:α}(h:l.drop j=a::r):(a::r).length<=l.length:=by rw[<-h,yd];omega
theorem VI{day:Int}{p:aP}{m:List (Int×PStart)}{ds r:List PDeed}{d:PDeed}(h:sX day p m ds (d::r)=[])(ha:fN d.it.kind=true):Cg day p m ds d=false:=by
  cases q:Cg day p m ds d with
  |false=>rfl
  |true=>rw[P5 ha q]at h;cases h
theorem XR(gs:List PGaz)(L:List PAct)(ds:List PDeed)(day:Int)(p:aP)(hL:L.length<10000)(hd:ds.length<100000)(ha:kP 77 [.ls (gs.map aA)] (.ls (L.map ay)))(hi:kP 94 [.ls (gs.map aA)] (.ls (ds.map aK)))(hE:sX day p (xH L []) ds ds=[]):
    kD 55 [.ls (gs.map aA),.func (.func 56) [] [.ptr 1 0 0 0,.ptr 0 0 0 0,.ptr 2 0 0 0]] (aa [iF day,gF p,qo]) (.tuple []) (aa [iF day,gF p,qo]):=by
  have hlk:=zL
  have hup:=B9
  let q1:=[iV day];exact fu Tryz.func55 fun a=>Kp 2 ha<|Kl 0 13 (ln ay L)<|Mg 0<|OM ay L ([]:List (Int×PStart)) [0,1,4,12,13,14] (fun a _ b=>([aW<|gs.map aA,bV (bK 56) [] [bX 1 0 0 0,bX 0 0 0 0,bX 2 0 0 0],AV.map 3,aW<|L.map ay,nV L.length,nV a],[aZ 1 false 0 [iV day],aZ 1 false 0 [ax p],aZ 1 false 0 [ak],AObj.map (bD ao b 0) b.length])) (fun a b=>xH L []=xH a b) (by rfl) (fun _ _ b _ _ _ c d=>Kh 0 c<|Kp 0 hi<|Kl 2 27 (ln aK ds)<|Mg 0<|Vo (0:Nat) ds () [1,4,7,26,27,28] (fun a _ _=>([bV (bK 56) [] [bX 1 0 0 0,bX 0 0 0 0,bX 2 0 0 0],AV.map 3,aW<|ds.map aK,aW<|ds.map aK,nV ds.length,nV a],[aZ 1 false 0 [iV day],aZ 1 false 0 [ax p],aZ 1 false 0 [ak],AObj.map (bD ao b 0) b.length])) (fun a c _=>(ds).drop a=c/\sX day p b ds c=[]) (fun _ a _=>a.length) (et rfl<|by(rw[<-show xH L []=b from d];exact hE)) fun c d e f g=>Mc d (fun c=>have d:=gx f.1 c;have:=jJ (J:=fun a _=>sX day p b ds a=[]) (a:=e) c f.2;Kh 0 d<|M1 (.frz 3 []) (ju rt rt rt ti)<|Mf a) fun a d h=>let i:=[av [iV a.act,iV a.item,iV a.day,iV a.it.kind,aW<|a.it.at_.map az,aW<|a.it.to.map az,iV a.it.where_,iV a.it.nth_,iV a.it.unit.act,iV a.it.unit.item,iV a.it.unit.n,iV a.it.unit.kind,ax a.it.unit.label,aW<|a.it.unit.head.map aQ,aW<|a.it.unit.words.map aQ,aW<|a.it.unit.kids.map aU,aW<|a.it.old.map nW,aW<|a.it.new.map nW,ax a.it.label,ax a.it.for_,iV a.it.start.kind,iV a.it.start.day,ax a.it.start.event,iV a.it.act,iV a.it.item,iV a.it.day,ax a.it.event,aW<|a.it.by_.map OW]];have j:=gc f.1 h;have:=ap j;have k:=gz (enc:=aK) f.1 h;have e:=cT (J:=fun a _=>sX day p b ds a=[]) (a:=e) h f.2;Kt 0 j<|Mx k<|Kp 5 (nw a.it.kind)<|Mb (fN a.it.kind) (fun _=>K1 4 (.look<|av [iV (dK b a.act).kind,iV (dK b a.act).day,ax (dK b a.act).event]) (hlk b a.act)<|Kp 1 (m6 (dK b a.act) a ds<|by(omega))<|M3 (.efx true (b8 [])<|aa [aZ 1 false 0 q1,aZ 1 false 0 [ax p],aZ 1 false 0 [ak],AObj.map (bD ao b 0) b.length,aZ 28 false 0 i]) (yK rt (tM b.length 5<|aE (f:=ao) (fun _=>rfl) b 0) rt rt rt ti) (yK (aJ<|some<|aZ 28 false 0 i) (aJ<|some<|AObj.map (bD ao b 0) b.length) (aJ<|some<|aZ 1 false 0 [ak]) (aJ<|some<|aZ 1 false 0 [ax p]) (aJ<|some<|aZ 1 false 0 q1) ti) (YO day p b ds a<|by exact VI e (by assumption))<|Kl 0 46 (dB c)<|K1 0 (.frz 4 [1,4,7,26,27,28]) (Hy (tM b.length 4<|aE (f:=ao) (fun _=>rfl) b 0) rt rt rt ti)<|Mf<|g (c+1) d () (et (bN f.1 h)<|by(have z:=e;rw[P6 (VI z (by assumption))]at z;exact z))<|fF h) fun _=>Kl 0 46 (dB c)<|K1 0 (.frz 4 [1,4,7,26,27,28]) (Hy (tM b.length 4<|aE (f:=ao) (fun _=>rfl) b 0) rt rt rt ti)<|Mf<|g (c+1) d () (et (bN f.1 h)<|by(have z:=e;rw[P7 (by assumption)]at z;exact z))<|fF h) fun a _ b _ _ c d e _ f _ g h=>Kt 0 f<|Mx g<|K1 7 (.upd (bD ao (jv c.number c.start b) 0) (jv c.number c.start b).length) (hup b c)<|Kl 0 23 (dB a)<|K1 0 (.frz 4 [0,1,4,12,13,14]) (Hy (tM (jv c.number c.start b).length 4<|aE (f:=ao) (fun _=>rfl) (jv c.number c.start b) 0) rt rt rt ti)<|Mf<|e (jv c.number c.start b)<|by exact h
def HS(gs:List PGaz)(L:List PAct)(day:Int)(p:aP)(x0:Nat×List PAct×List (Int×PStart)):Prop:=(L).drop x0.1=x0.2.1/\xH L []=xH x0.2.1 x0.2.2
noncomputable def xj(gs:List PGaz)(L:List PAct)(day:Int)(p:aP)(x0:Nat×List PAct×List (Int×PStart)):List AV×List AObj:=([AV.ls (gs.map aA),AV.func (Fn.func 56) [] [AV.ptr 1 0 0 0,AV.ptr 0 0 0 0,AV.ptr 2 0 0 0],AV.map 3,AV.ls (L.map ay),nV L.length,nV x0.1],[AObj.row 1 false 0 [iV day],AObj.row 1 false 0 [AV.str p],AObj.row 1 false 0 [AV.nils],AObj.map (bD ao x0.2.2 0) x0.2.2.length])
def HR(ds:List PDeed)(day:Int)(p:aP)(x0:Nat×List PAct×List (Int×PStart))(x1:Nat×List PDeed×Unit):Prop:=(ds).drop x1.1=x1.2.1/\OnA day p x0.2.2 ds x1.2.1
noncomputable def xz(ds:List PDeed)(day:Int)(p:aP)(x0:Nat×List PAct×List (Int×PStart))(x1:Nat×List PDeed×Unit):List AV×List AObj:=([AV.func (Fn.func 56) [] [AV.ptr 1 0 0 0,AV.ptr 0 0 0 0,AV.ptr 2 0 0 0],AV.map 3,AV.ls (ds.map aK),AV.ls (ds.map aK),nV ds.length,nV x1.1],[AObj.row 1 false 0 [iV day],AObj.row 1 false 0 [AV.str p],AObj.row 1 false 0 [AV.nils],AObj.map (bD ao x0.2.2 0) x0.2.2.length])
def HP(ds:List PDeed)(day:Int)(p:aP)(x0:Nat×List PAct×List (Int×PStart))(x1:Nat×List PDeed×Nat×Nat×List PDeed):Prop:=(ds).drop x1.1=x1.2.1/\OnR day p x0.2.2 ds x1.2.1 x1.2.2.1 x1.2.2.2.1 x1.2.2.2.2
noncomputable def HO(ds:List PDeed)(day:Int)(p:aP)(x0:Nat×List PAct×List (Int×PStart))(x1:Nat×List PDeed×Nat×Nat×List PDeed):List AV×List AObj:=([AV.func (Fn.func 56) [] [AV.ptr 1 0 0 0,AV.ptr 0 0 0 0,AV.ptr 2 0 0 0],AV.map 3,AV.ls (ds.map aK),AV.ls (ds.map aK),nV ds.length,nV x1.1],[AObj.row 1 false 0 [iV day],AObj.row 1 false 0 [AV.str p],AObj.row 1 false 0 [AV.slice 4 x1.2.2.1 0 x1.2.2.2.1 none],AObj.map (bD ao x0.2.2 0) x0.2.2.length,AObj.row 28 true x1.2.2.1 (x1.2.2.2.2.map aK)])
theorem XP(gs:List PGaz)(L:List PAct)(ds:List PDeed)(day:Int)(p:aP)(hL:L.length<10000)(hd:ds.length<100000)(ha:kP 77 [.ls (gs.map aA)] (.ls (L.map ay)))(hi:kP 94 [.ls (gs.map aA)] (.ls (ds.map aK)))(hE:sX day p (xH L []) ds ds≠[]):
    kD 55 [.ls (gs.map aA),.func (.func 56) [] [.ptr 1 0 0 0,.ptr 0 0 0 0,.ptr 2 0 0 0]] (aa [iF day,gF p,qo]) (.tuple []) (aa [iF day,gF p,pP 3 ((sX day p (xH L []) ds ds).length -1) (sX day p (xH L []) ds ds).length,ie ((sX day p (xH L []) ds ds).length -1) (sX day p (xH L []) ds ds)]):=by
  have hlk:=zL
  have hup:=B9
  let q5:=[iV day];let q8:=b8 [];let q10:=some (aZ 1 false 0 [ax p]);let q11:=some (aZ 1 false 0 q5);exact OE Tryz.func55<|Kp 2 ha<|Kl 0 13 (ln ay L)<|Mg 0<|ML (Nat×List PAct×List (Int×PStart)) [0,1,4,12,13,14] (xj gs L day p) (HS gs L day p) (fun a=>a.2.1.length) (0,L,[]) (aJ<|xj gs L day p (0,L,[])) (et (rfl:List.drop 0 (L)=L) (by rfl:(xH L []=xH L []))) fun a b c=>let d:=some<|AObj.map (bD ao a.2.2 0) a.2.2.length;Mi (fun a b=>xH L []=xH a b) ay b (fun _ b c=>Kh 0 b<|Kp 0 hi<|Kl 2 27 (ln aK ds)<|Mg 0<|MM (Nat×List PDeed×Unit) (Nat×List PDeed×Nat×Nat×List PDeed) [1,4,7,26,27,28] (xz ds day p a) (HO ds day p a) (HR ds day p a) (HP ds day p a) (fun a=>a.2.1.length) (fun a=>a.2.1.length) (.inl (0,ds,())) (aJ<|xz ds day p a (0,ds,())) (et (rfl:List.drop 0 (ds)=ds) (by(exact⟨rfl⟩):(OnA day p a.2.2 ds ds))) (fun b e f=>Mc b.2.1 (fun d=>have f:=gx e.1 d;have b:=jJ (J:=fun b _=>OnA day p a.2.2 ds b) (a:=b.2.2) d e.2;Kh 0 f<|Mw .abs (by exact hE (by rw[show xH L []=a.2.2 from c];exact b.f):False)) fun c g h=>let i:=[av [iV c.act,iV c.item,iV c.day,iV c.it.kind,aW<|c.it.at_.map az,aW<|c.it.to.map az,iV c.it.where_,iV c.it.nth_,iV c.it.unit.act,iV c.it.unit.item,iV c.it.unit.n,iV c.it.unit.kind,ax c.it.unit.label,aW<|c.it.unit.head.map aQ,aW<|c.it.unit.words.map aQ,aW<|c.it.unit.kids.map aU,aW<|c.it.old.map nW,aW<|c.it.new.map nW,ax c.it.label,ax c.it.for_,iV c.it.start.kind,iV c.it.start.day,ax c.it.start.event,iV c.it.act,iV c.it.item,iV c.it.day,ax c.it.event,aW<|c.it.by_.map OW]];let j:=av [iV (dK a.2.2 c.act).kind,iV (dK a.2.2 c.act).day,ax (dK a.2.2 c.act).event];have k:=gc e.1 h;have:=ap k;have l:=gz (enc:=aK) e.1 h;have m:=cT (J:=fun b _=>OnA day p a.2.2 ds b) (a:=b.2.2) h e.2;Kt 0 k<|Mx l<|Kp 5 (nw c.it.kind)<|Mb (fN c.it.kind) (fun _=>Ms (Cg day p a.2.2 ds c) (fun d=>K1 4 (.look j) (hlk a.2.2 c.act)<|Kp 1 (m6 (dK a.2.2 c.act) c ds<|by(omega))<|M3 (.efx false q8<|aa [aZ 1 false 0 q5,aZ 1 false 0 [ax p],aZ 1 false 0 [aH 5 0 0 1 none],AObj.map (bD ao a.2.2 0) a.2.2.length,aZ 28 false 0 i,aZ 28 true 0 i]) (yK rt (tM a.2.2.length 5<|aE (f:=ao) (fun _=>rfl) a.2.2 0) rt rt rt ti) ti (Z8 day p a.2.2 ds c d)<|Kl 0 46 (dB b.1)<|K1 0 (.ren [0,1,2,3,5,4] [3] [1,4,7,26,27,28]) (tN a.2.2.length<|aE (f:=ao) (fun _=>rfl) a.2.2 0)<|M1 (.frz 5 [1,4,7,26,27,28]) (yK rt (tM a.2.2.length 5<|aE (f:=ao) (fun _=>rfl) a.2.2 0) rt rt rt ti)<|Mf<|f (.inr (b.1+1,g,(0,1,[c]))) (et (bN e.1 h) (by exact m.new (Wn (e.1.trans h)) (by assumption) (by assumption) rfl:(OnR day p a.2.2 ds g (0:Nat) (1:Nat) [c])))<|fF h) fun k=>K1 4 (.look j) (hlk a.2.2 c.act)<|Kp 1 (m6 (dK a.2.2 c.act) c ds<|by(omega))<|M3 (.efx true q8<|aa [aZ 1 false 0 q5,aZ 1 false 0 [ax p],aZ 1 false 0 [ak],AObj.map (bD ao a.2.2 0) a.2.2.length,aZ 28 false 0 i]) (yK rt (tM a.2.2.length 5<|aE (f:=ao) (fun _=>rfl) a.2.2 0) rt rt rt ti) (yK (aJ<|some<|aZ 28 false 0 i) (aJ d) (aJ<|some<|aZ 1 false 0 [ak]) (aJ q10) (aJ q11) ti) (Z9 day p a.2.2 ds c k)<|Kl 0 46 (dB b.1)<|K1 0 (.frz 4 [1,4,7,26,27,28]) (Hy (tM a.2.2.length 4<|aE (f:=ao) (fun _=>rfl) a.2.2 0) rt rt rt ti)<|Mf<|f (.inl (b.1+1,g,())) (et (bN e.1 h) (by exact m.nil (by assumption):(OnA day p a.2.2 ds g)))<|fF h) fun _=>Kl 0 46 (dB b.1)<|K1 0 (.frz 4 [1,4,7,26,27,28]) (Hy (tM a.2.2.length 4<|aE (f:=ao) (fun _=>rfl) a.2.2 0) rt rt rt ti)<|Mf<|f (.inl (b.1+1,g,())) (et (bN e.1 h) (by exact m.no (by assumption):(OnA day p a.2.2 ds g)))<|fF h) fun b e f=>let g:=[aH 4 b.2.2.1 0 b.2.2.2.1 none];let h:=List.map aK b.2.2.2.2;Mc b.2.1 (fun d=>have f:=gx e.1 d;have d:=jJ (J:=fun b c=>OnR day p a.2.2 ds b c.1 c.2.1 c.2.2) (a:=b.2.2) d e.2;Kh 0 f<|M2 (.ren [0,1,2,4,3] [4,3] []) (tS 28 true b.2.2.1<|aX xV b.2.2.2.2) (tN a.2.2.length<|aE (f:=ao) (fun _=>rfl) a.2.2 0)<|M1 (.frz 4 []) (Hy (tR 28 true b.2.2.1 4<|aX xV b.2.2.2.2) rt rt rt ti)<|Mf<|et (aJ q8) (by(have q:=d.done;rw[show xH L []=a.2.2 from c,q.1,q.2.1,q.2.2]):(aa [AObj.row 1 false 0 [iV day],AObj.row 1 false 0 [AV.str p],AObj.row 1 false 0 [AV.slice 3 b.2.2.1 0 b.2.2.2.1 none],AObj.row 28 true b.2.2.1 (b.2.2.2.2.map aK)])=(aa [iF day,gF p,pP 3 ((sX day p (xH L []) ds ds).length -1) (sX day p (xH L []) ds ds).length,ie ((sX day p (xH L []) ds ds).length -1) (sX day p (xH L []) ds ds)]))) fun c i j=>let k:=[av [iV c.act,iV c.item,iV c.day,iV c.it.kind,aW<|c.it.at_.map az,aW<|c.it.to.map az,iV c.it.where_,iV c.it.nth_,iV c.it.unit.act,iV c.it.unit.item,iV c.it.unit.n,iV c.it.unit.kind,ax c.it.unit.label,aW<|c.it.unit.head.map aQ,aW<|c.it.unit.words.map aQ,aW<|c.it.unit.kids.map aU,aW<|c.it.old.map nW,aW<|c.it.new.map nW,ax c.it.label,ax c.it.for_,iV c.it.start.kind,iV c.it.start.day,ax c.it.start.event,iV c.it.act,iV c.it.item,iV c.it.day,ax c.it.event,aW<|c.it.by_.map OW]];let l:=av [iV (dK a.2.2 c.act).kind,iV (dK a.2.2 c.act).day,ax (dK a.2.2 c.act).event];have m:=gc e.1 j;have:=ap m;have n:=gz (enc:=aK) e.1 j;have o:=cT (J:=fun b c=>OnR day p a.2.2 ds b c.1 c.2.1 c.2.2) (a:=b.2.2) j e.2;Kt 0 m<|Mx n<|Kp 5 (nw c.it.kind)<|Mb (fN c.it.kind) (fun _=>Ms (Cg day p a.2.2 ds c) (fun d=>K1 4 (.look l) (hlk a.2.2 c.act)<|Kp 1 (m6 (dK a.2.2 c.act) c ds<|by(omega))<|M3 (.efx false q8<|aa [aZ 1 false 0 q5,aZ 1 false 0 [ax p],aZ 1 false 0 [aH 4 (b.2.2.1+1) 0 (b.2.2.2.1+1) none],AObj.map (bD ao a.2.2 0) a.2.2.length,aZ 28 true (b.2.2.1+1)<|(b.2.2.2.2++[c]).map aK,aZ 28 false 0 k]) (N7 rt (tR 28 true b.2.2.1 6<|aX xV b.2.2.2.2) (tM a.2.2.length 6<|aE (f:=ao) (fun _=>rfl) a.2.2 0) rt rt rt ti) ti (Z6 day p a.2.2 ds c b.2.2.1 b.2.2.2.1 b.2.2.2.2 d (by exact o.len)<|by(have z:=o.small;have z2:=o.len;simp only[lC]at z;omega))<|Kl 0 46 (dB b.1)<|K1 0 (.frz 5 [1,4,7,26,27,28]) (yK (tR 28 true (b.2.2.1+1) 5<|aX xV<|b.2.2.2.2++[c]) (tM a.2.2.length 5<|aE (f:=ao) (fun _=>rfl) a.2.2 0) rt rt rt ti)<|Mf<|f (.inr (b.1+1,i,(b.2.2.1+1,b.2.2.2.1+1,b.2.2.2.2++[c]))) (et (bN e.1 j) (by exact o.new (by assumption) (by assumption) rfl:(OnR day p a.2.2 ds i (b.2.2.1+1) (b.2.2.2.1+1) (b.2.2.2.2++[c]))))<|fF j) fun m=>K1 4 (.look l) (hlk a.2.2 c.act)<|Kp 1 (m6 (dK a.2.2 c.act) c ds<|by(omega))<|M3 (.efx true q8<|aa [aZ 1 false 0 q5,aZ 1 false 0 [ax p],aZ 1 false 0 g,AObj.map (bD ao a.2.2 0) a.2.2.length,aZ 28 true b.2.2.1 h,aZ 28 false 0 k]) (N7 rt (tR 28 true b.2.2.1 6<|aX xV b.2.2.2.2) (tM a.2.2.length 6<|aE (f:=ao) (fun _=>rfl) a.2.2 0) rt rt rt ti) (N7 (aJ<|some<|aZ 28 false 0 k) (aJ<|some<|aZ 28 true b.2.2.1 h) (aJ d) (aJ<|some<|aZ 1 false 0 g) (aJ q10) (aJ q11) ti) (Z7 day p a.2.2 ds c b.2.2.1 b.2.2.2.1 b.2.2.2.2 m)<|Kl 0 46 (dB b.1)<|K1 0 (.frz 5 [1,4,7,26,27,28]) (yK (tR 28 true b.2.2.1 5<|aX xV b.2.2.2.2) (tM a.2.2.length 5<|aE (f:=ao) (fun _=>rfl) a.2.2 0) rt rt rt ti)<|Mf<|f (.inr (b.1+1,i,(b.2.2.1,b.2.2.2.1,b.2.2.2.2))) (et (bN e.1 j) (by exact o.nil (by assumption):(OnR day p a.2.2 ds i b.2.2.1 b.2.2.2.1 b.2.2.2.2)))<|fF j) fun _=>Kl 0 46 (dB b.1)<|K1 0 (.frz 5 [1,4,7,26,27,28]) (yK (tR 28 true b.2.2.1 5<|aX xV b.2.2.2.2) (tM a.2.2.length 5<|aE (f:=ao) (fun _=>rfl) a.2.2 0) rt rt rt ti)<|Mf<|f (.inr (b.1+1,i,(b.2.2.1,b.2.2.2.1,b.2.2.2.2))) (et (bN e.1 j) (by exact o.no (by assumption):(OnR day p a.2.2 ds i b.2.2.1 b.2.2.2.1 b.2.2.2.2)))<|fF j) fun d e f g _ h i=>Kt 0 g<|Mx h<|K1 7 (.upd (bD ao (jv d.number d.start a.2.2) 0) (jv d.number d.start a.2.2).length) (hup a.2.2 d)<|Kl 0 23 (dB a.1)<|K1 0 (.frz 4 [0,1,4,12,13,14]) (Hy (tM (jv d.number d.start a.2.2).length 4<|aE (f:=ao) (fun _=>rfl) (jv d.number d.start a.2.2) 0) rt rt rt ti)<|Mf<|c (a.1+1,e,jv d.number d.start a.2.2) (et (bN b.1 f) (by exact i:(xH L []=xH e (jv d.number d.start a.2.2))))<|fF f
noncomputable def ZB(day:Int)(p:aP)(L:List PAct)(ds:List PDeed):List PDeed:=sX day p (xH L []) ds ds
theorem YM(gs:List PGaz)(day:Int)(p:aP)(hc:kD 55 [.ls (gs.map aA),.func (.func 56) [] [.ptr 1 0 0 0,.ptr 0 0 0 0,.ptr 2 0 0 0]] (aa [iF day,gF p,qo]) (.tuple []) (aa [iF day,gF p,qo])):kP 20 [iV day,.str p,.ls (gs.map aA)] (.ls (([]:List PDeed).map aK)):=by
  exact bB Tryz.func20<|Ke 5 hc<|Kf 1 bA
theorem YL(gs:List PGaz)(day:Int)(p:aP)(X:List PDeed)(k:Nat)(hz:0<X.length)(hb:X.length<2^40)(hc:kD 55 [.ls (gs.map aA),.func (.func 56) [] [.ptr 1 0 0 0,.ptr 0 0 0 0,.ptr 2 0 0 0]] (aa [iF day,gF p,qo]) (.tuple []) (aa [iF day,gF p,pP 3 k X.length,ie k X])):kP 20 [iV day,.str p,.ls (gs.map aA)] (.ls (X.map aK)):=by
  let q:=List.map aK X;exact bB Tryz.func20<|Ke 5 hc<|Mg 1<|M2 (.fsl 0 [] 6 q) ti (co (aJ k) (tA aK X X.length rfl)<|aX xV X)<|Ml 6 (fw q false<|aX xV X)<|Mf<|bx<|aW q
theorem YN(gs:List PGaz)(L:List PAct)(ds:List PDeed)(day:Int)(p:aP)(hL:L.length<10000)(hd:ds.length<100000)(ha:kP 77 [.ls (gs.map aA)] (.ls (L.map ay)))(hi:kP 94 [.ls (gs.map aA)] (.ls (ds.map aK))):kP 20 [iV day,.str p,.ls (gs.map aA)] (.ls ((ZB day p L ds).map aK)):=by
  by_cases hE:ZB day p L ds=[]
  · rw[hE];exact YM gs day p (XR gs L ds day p hL hd ha hi hE)
  · have hl:(ZB day p L ds).length<=ds.length:=List.length_filter_le ..
    exact YL gs day p _ _ (qW.2 hE) (by omega) (XP gs L ds day p hL hd ha hi hE)
def ot:TUnit:=⟨0,0,0,0,[],[],[],[]⟩
theorem Eg:OkB ot:=⟨by decide,by decide,fun x hx=>by
  have e:x=ot:=by simpa[ot,bU,dZ]using hx
  subst e;exact⟨bE _,bE _⟩⟩
theorem YZ(X:List PDeed)(hl:X.length<2^30)(ho:∀d,d∈X->vg d.it):kP 65 [zU,.ls (X.map aK)] (.tuple [eU (cj ot X),.ls ((fZ ot X).map gj)]):=
  (Sg ot X Eg hl ho).args (.cons (wJ _ _ (by kernel_rfl)).1 (.cons (Le.refl _) .nil))
theorem RT(X:List PDeed)(hl:X.length<2^30)(ho:∀d,d∈X->vg d.it):kP 27 [.ls (X.map aK)] (.tuple [eU (cj ot X),.ls ((fZ ot X).map gj)]):=by
  have h:=YZ X hl ho
  exact bB Tryz.func27<|Kp 3 h<|Kf 3<|bx<|b8 [av [iV (cj ot X).act,iV (cj ot X).item,iV (cj ot X).n,iV (cj ot X).kind,ax (cj ot X).label,aW<|List.map aQ (cj ot X).head,aW<|List.map aQ (cj ot X).words,aW<|List.map aU (cj ot X).kids],aW<|(fZ ot X).map gj]
theorem VQ(gs:List PGaz)(day:Int)(p:aP)(X:List PDeed)(hon:kP 20 [iV day,.str p,.ls (gs.map aA)] (.ls (X.map aK))):kP 26 [iV day,.str p,.ls (gs.map aA)] (.ls (X.map aK)):=by
  exact bB Tryz.func26<|Kp 3 hon<|Kf 0<|bx<|aW<|X.map aK
theorem RA(s:aP):dP s s=true:=by rw[pf];simp
theorem F3(l:List PWord)(hl:l.length<2^40):kP 23 [.ls (l.map aQ),.ls (l.map aQ)] (.bool true):=by
  have hr:∀x:Int,ab x x=true:=bz
  have hs:∀x:aP,dP x x=true:=RA
  have rr0 b' (h:(true)=b':=by(exfalso;first|omega|(simp_all;done))):=h;exact bB Tryz.func23<|Kl 2 7 (ln aQ l)<|Kl 1 9 (ln aQ l)<|Kc 0 (Int.ofNat l.length) (Int.ofNat l.length) (fun _ _=>Ky 0<|rr0 false) fun _ _=>Mg 0<|Vo (0:Nat) l () [0,1,5] (fun a _ _=>([aW<|l.map aQ,aW<|l.map aQ,nV a],[])) (fun a b _=>(l).drop a=b/\True) (fun _ a _=>a.length) (et rfl<|by(trivial)) fun a b c d e=>Mc b (fun a=>have b:=gx d.1 a;have:=jJ (J:=fun _ _=>True) (a:=c) a d.2;Kl 2 13 (ln aQ l)<|Kh 0 b<|Kf 0<|bx<|ez true) fun b f g=>let i:=[ax b.text,iV b.act,iV b.item,iV b.at_];have j:=gc d.1 g;have:=ap j;have k:=gz (enc:=aQ) d.1 g;have:=cT (J:=fun _ _=>True) (a:=c) g d.2;Kl 2 13 (ln aQ l)<|Kt 0 j<|Kx 1 k<|Kx 2 k<|Kv 0 (yw (d:=(Tryz.prog).underlying 125) (n:=4) (l:=(0,2)::(1,1)::(2,1)::(3,1)::[]) (xs:=i) (ys:=i) (H:=AHeap.mk 1000000 Tr.nil) rfl<|LP rfl rfl (congrArg some<|uf b.text)<|LP rfl rfl (Rn b.act)<|LP rfl rfl (Rn b.item)<|LP rfl rfl (Rn b.at_) rfl)<|Kl 2 16 (dB a)<|Kf 0<|e (a+1) f () (et (bN d.1 g)<|by trivial)<|fF g
structure OkG(gs:List PGaz):Prop where
  fit:pH gs
  len:gs.length<=9
  acts:∀g,g∈gs->g.acts.length<=20
  items:∀g,g∈gs->∀a,a∈g.acts->a.items.length<=40/\∀x,x∈a.items->m9 x=true
theorem Hz{most:Int}:∀(l:List PAct)(n m:Int),most=24->0<=n->mU most l n=some m->0<=m/\∀a,a∈l->a.items.length<=24/\∀x,x∈a.items->m9 x=true
  |[],n,m,_,hn,h=>by simp only[mU,xe]at h;exact⟨h▸hn,fun a ha=>by cases ha⟩
  | b::r,n,m,hm,hn,h=>by
    unfold mU at h
    cases hb:BJ most n b with
    |true=>rw[hb]at h;cases h
    | false=>
      rw[hb]at h
      unfold BJ at hb
      simp only[BN]at hb
      obtain⟨z1,_,_,z2⟩:=hb
      have z1:=aB z1
      obtain⟨q1,q2⟩:=Hz r (n+Int.ofNat b.items.length) m hm (by simp only[oN]at *;omega) h
      refine⟨q1,fun a ha=>?_⟩
      rcases eu.1 ha with rfl|ha
      · refine⟨by simp only[oN]at *;omega,fun x hx=>?_⟩
        have z3:=ql z2
        exact mq.1 z3 x hx
      · exact q2 a ha
theorem LI:∀(l:List PGaz)(n:Int),0<=n->uc 24 l n=true->∀g,g∈l->g.acts.length<=8/\∀a,a∈g.acts->a.items.length<=24/\∀x,x∈a.items->m9 x=true
  |[],_,_,_,g,hg=>by cases hg
  | x::r,n,hn,h,g,hg=>by
    unfold uc at h
    cases hb:vH x with
    |true=>rw[hb]at h;cases h
    | false=>
      rw[hb]at h
      cases ha:mU 24 x.acts n with
      |none=>rw[ha]at h;cases h
      | some m=>
        rw[ha]at h
        obtain⟨q1,q2⟩:=Hz x.acts n m rfl hn ha
        rcases eu.1 hg with rfl|hg
        · unfold vH at hb
          have:=aB (BN.1 hb).1
          exact⟨by simp only[oN]at *;omega,q2⟩
        · exact LI r m q1 h g hg
theorem WI{gs:List PGaz}{p:aP}(hf:pH gs)(h:N3 gs p=true):OkG gs/\gs.length<=8:=by
  unfold N3 at h
  have h1:=(pB.1 h).1
  unfold N4 at h1
  cases hb:au 8 (Int.ofNat gs.length)with
  |true=>rw[hb]at h1;cases h1
  | false=>
    rw[hb]at h1
    have:=aB hb
    have hl:gs.length<=8:=by simp only[oN]at *;omega
    have q:=LI gs 0 (by omega) h1
    exact⟨⟨hf,by omega,fun g hg=>bH (q g hg).1 (by decide),fun g hg a ha=>⟨bH ((q g hg).2 a ha).1 (by decide),((q g hg).2 a ha).2⟩⟩,hl⟩
theorem CJ:∀(ys out:List PAct),(ys.foldl jk out).length<=out.length+ys.length
  |[],out=>af _
  | a::r,out=>by
    have:=CJ r (jk out a);have:=(Pk out a).2
    simp only[mB,lC];omega
theorem Aa:∀(gs:List PGaz),(∀g,g∈gs->g.acts.length<=20)->∀out,(bJ gs out).length<=out.length+20*gs.length
  |[],_,out=>af _
  | g::r,hb,out=>by
    have:=Aa r (fun x hx=>hb x (eG _ hx)) (g.acts.foldl jk out)
    have:=CJ g.acts out
    have:=hb g (eF ..)
    simp only[bJ,mB,lC]at *
    omega
theorem Pj{out:List PAct}{a b:PAct}(h:b∈jk out a):b∈out\/b=a:=by
  unfold jk at h
  split at h
  · exact .inl h
  · rcases iy.1 h with h|h
    · exact .inl h
    · exact .inr (ly.1 h)
theorem CW:∀(ys out:List PAct)(b:PAct),b∈ys.foldl jk out->b∈out\/b∈ys
  |[],out,b,h=>.inl h
  | a::r,out,b,h=>by
    rcases CW r (jk out a) b h with h|h
    · rcases Pj h with h|rfl
      · exact .inl h
      · exact .inr (eF ..)
    · exact .inr (eG _ h)
theorem Ay:∀(gs:List PGaz)(out:List PAct)(b:PAct),b∈bJ gs out->b∈out\/∃g,g∈gs/\b∈g.acts
  |[],out,b,h=>.inl h
  | g::r,out,b,h=>by
    rcases Ay r (g.acts.foldl jk out) b h with h|⟨g2,q1,q2⟩
    · rcases CW g.acts out b h with h|h
      · exact .inl h
      · exact .inr ⟨g,eF ..,h⟩
    · exact .inr ⟨g2,eG _ q1,q2⟩
theorem uT:∀(l:List PAct),(∀a,a∈l->a.items.length<=40)->(km l).length<=40*l.length
  |[],_=>af _
  | a::r,h=>by
    have:=uT r fun b hb=>h b (eG _ hb)
    have:=h a (eF ..)
    simp only[km,BD,lA,lH,lC]at *
    omega
theorem OkG.act{gs:List PGaz}(h:OkG gs){a:PAct}(ha:a∈eg gs):a.items.length<=40/\(∀x,x∈a.items->m9 x=true)/\Rb a:=by
  have ha:=(jC gs).mem_iff.1 ha
  rcases Ay gs [] a ha with q|⟨g,h1,h2⟩
  · cases q
  · exact⟨(h.items g h1 a h2).1,(h.items g h1 a h2).2,(h.fit.2 g h1).2 a h2⟩
noncomputable def qP(gs:List PGaz):List PDeed:=bL (am (eg gs) []) (eg gs)
theorem OkG.lens{gs:List PGaz}(h:OkG gs):(eg gs).length<=180/\(qP gs).length<=7200:=by
  have h1:=Aa gs h.acts []
  have h2:=(jC gs).length_eq
  have h3:=uT (eg gs) fun a ha=>(h.act ha).1
  have h4:=h.len
  have h5:(qP gs).length=(km (eg gs)).length:=cX ..
  simp only[lN]at h1
  omega
theorem OkG.all{gs:List PGaz}(h:OkG gs):kP 77 [.ls (gs.map aA)] (.ls ((eg gs).map ay))/\kP 94 [.ls (gs.map aA)] (.ls ((qP gs).map aK)):=by
  have h1:=h.lens
  have h2:=(jC gs).length_eq
  have h3:(qP gs).length=(km (eg gs)).length:=cX ..
  have h4:=h.len
  exact⟨Mu gs h.fit (fun g hg=>nl (h.acts g hg) (by decide)) (by omega) (by omega),QA gs h.fit (fun g hg=>nl (h.acts g hg) (by decide)) (by omega) (by omega) (fun a ha=>nl (h.act ha).1 (by decide)) (by omega)⟩
theorem X6{x y:PItem}(h:m9 x=true)(hy:y∈x.by_):m9 y=true:=by
  rw[Ey]at h
  simp only[bq]at h
  have:=mq.1 h.2.2.2.2.2 y hy
  unfold H0 at this
  exact(pB.1 this).2
theorem X5{x y:PItem}(h:nc x)(hy:y∈x.by_):nc y:=(qF.1 h).2.2.2.2.2.2 y hy
theorem FL{K V:Type}{keq:K->K->Bool}{k:K}{v:V}:∀{l:List (K×V)}{e:K×V},e∈fC keq k v l->e∈l\/e.2=v
  | [],e,h=>by
    rw[fC,ly]at h;exact .inr (by rw[h])
  | (j,u)::r,e,h=>by
    rw[fC]at h
    cases q:keq k j with
    | true=>
      rw[q]at h
      rcases eu.1 h with h|h
      · exact .inr (by rw[h])
      · exact .inl (eG _ h)
    | false=>
      rw[q]at h
      rcases eu.1 h with h|h
      · exact .inl (by rw[h];exact eF ..)
      · rcases FL (l:=r) h with h|h
        · exact .inl (eG _ h)
        · exact .inr h
theorem G3{K V:Type}{keq:K->K->Bool}{k:K}{v:V}:∀{l:List (K×V)},n7 keq k l=some v->∃e,e∈l/\e.2=v
  |[],h=>by cases h
  | (j,u)::r,h=>by
    rw[n7]at h
    cases q:keq k j with
    |true=>rw[q]at h;exact⟨(j,u),eF ..,KZ h⟩
    | false=>
      rw[q]at h
      obtain⟨e,h1,h2⟩:=G3 (l:=r) h
      exact⟨e,eG _ h1,h2⟩
theorem OU{m:List ((Int×Int)×PItem)}{x:PItem}(hm:∀e,e∈m->vg e.2)(h1:m9 x=true)(h2:nc x):∀e,e∈jA m x->vg e.2:=by
  unfold jA
  split
  · rename_i h
    simp only[bq]at h
    have hl:=ap h.1.2
    have hy:gD x.by_ 0∈x.by_:=gY (by simp only[oN]at hl;omega)
    intro e he
    rcases FL he with q|q
    · exact hm e q
    · rw[q];exact QY (X5 h2 hy) (X6 h1 hy)
  · exact hm
theorem DW:∀(xs:List PItem)(m:List ((Int×Int)×PItem)),(∀e,e∈m->vg e.2)->(∀x,x∈xs->m9 x=true/\nc x)->∀e,e∈xs.foldl jA m->vg e.2
  |[],_,hm,_=>hm
  |x::r,m,hm,h=>DW r (jA m x) (OU hm (h x (eF ..)).1 (h x (eF ..)).2) fun y hy=>h y (eG _ hy)
theorem DX:∀(l:List PAct)(m:List ((Int×Int)×PItem)),(∀e,e∈m->vg e.2)->(∀a,a∈l->∀x,x∈a.items->m9 x=true/\nc x)->∀e,e∈am l m->vg e.2
  |[],_,hm,_=>hm
  |a::r,m,hm,h=>DX r (a.items.foldl jA m) (DW a.items m hm (h a (eF ..))) fun b hb=>h b (eG _ hb)
theorem At(a:PAct):∀(l:List PItem)(i:Nat)(d:PDeed),d∈bO a l i->d.it∈l
  |[],_,d,h=>by cases h
  | x::r,i,d,h=>by
    rcases eu.1 h with rfl|h
    · exact eF ..
    · exact eG _ (At a r _ d h)
theorem OkG.deed{gs:List PGaz}(h:OkG gs){d:PDeed}(hd:d∈qP gs):vg d.it:=by
  have hi:∀a,a∈eg gs->∀x,x∈a.items->m9 x=true/\nc x:=fun a ha x hx=>⟨(h.act ha).2.1 x hx,(h.act ha).2.2.2 x hx⟩
  obtain⟨o,ho,rfl⟩:=iS.1 hd
  obtain⟨a,ha,hoa⟩:=List.mem_flatMap.1 ho
  have h1:=hi a ha _ (At a _ _ _ hoa)
  have h2:vg o.it:=QY h1.2 h1.1
  unfold lE
  split
  · rename_i hc
    have hc:=(pB.1 hc).1
    unfold qB at hc
    show vg (Ib (am (eg gs) []) o)
    unfold Ib
    cases q:n7 pe (o.act,o.item) (am (eg gs) [])with
    |none=>rw[q]at hc;cases hc
    | some v=>
      obtain⟨e,e1,e2⟩:=G3 q
      have:=DX (eg gs) [] (fun e he=>by cases he) hi e e1
      rw[e2]at this
      exact this
  · exact h2
noncomputable def js(day:Int)(p:aP)(gs:List PGaz):List PDeed:=ZB day p (eg gs) (qP gs)
theorem OkG.force{gs:List PGaz}(h:OkG gs)(day:Int)(p:aP):(js day p gs).length<2^30/\(∀d,d∈js day p gs->vg d.it)/\kP 20 [iV day,.str p,.ls (gs.map aA)] (.ls ((js day p gs).map aK)):=by
  have hl:=h.lens
  have h1:(js day p gs).length<=(qP gs).length:=List.length_filter_le ..
  exact⟨by omega,fun d hd=>h.deed (yc.1 hd).1,YN gs _ _ day p (by omega) (by omega) h.all.1 h.all.2⟩
noncomputable abbrev zIt:List AV:=[iV 0,.nils,.nils,iV 0,iV 0,iV 0,iV 0,iV 0,iV 0,.str [],.nils,.nils,.nils,.nils,.nils,.str [],.str [],iV 0,iV 0,.str [],iV 0,iV 0,iV 0,.str [],.nils]
noncomputable abbrev JP(a i y:Int):AV:=.agg (iV a::iV i::iV y::zIt)
noncomputable abbrev xm(a i:Int):AV:=.agg [iV a,iV i]
noncomputable abbrev vS(g:Nat):AV:=.func (.func g) [] []
noncomputable abbrev qS(g:Nat)(a i y:Int):AV:=.func (.func 114) [] [.pptr [vS g] 0 0,.pptr [JP a i y] 0 0]
noncomputable def xp(d:PDeed)(a i y:Int):Int:=Cf [gm d.day y,gm d.act a,gm d.item i]
theorem WE(x y z:Int):kP 119 [.ps [iV x,iV y,iV z] true] (iV (Cf [x,y,z])):=
  aT.onArgs (.cons (Le.ps _ _ rfl) .nil) (VG [x,y,z] (by simp))
theorem VW(d:PDeed)(a i y:Int):kP 83 [aK d,JP a i y] (iV (xp d a i y)):=by
  exact bB Tryz.func83<|Kp 6 (jB d.day y)<|Kp 3 (jB d.act a)<|Kp 3 (jB d.item i)<|Kp 0 (WE (gm d.day y) (gm d.act a)<|gm d.item i)<|Kf 0<|bx<|iV<|Cf [gm d.day y,gm d.act a,gm d.item i]
theorem VV(o:Int):kP 41 [iV o] (.bool (au o 0)):=by
  exact wk Tryz.func41 (.go 3 .fin)<|bx<|ez<|au o 0
theorem Ki(o:Int):kP 60 [iV o] (.bool (aj (au 0 o))):=by
  exact wk Tryz.func60 (.go 3 .fin)<|bx<|ez<|aj<|au 0 o
theorem EL(d:PDeed)(g:Nat)(a i y:Int)(p:Int->Bool)(hp:∀o,kP g [iV o] (.bool (p o))):kP 114 [aK d,.pptr [vS g] 0 0,.pptr [JP a i y] 0 0] (.bool (aj (p (xp d a i y)))):=by
  have h:=VW d a i y
  exact bB Tryz.func114<|Kp 4 h<|Mp (hp<|xp d a i y)<|Kf 1<|bx<|ez<|aj<|p<|xp d a i y
theorem SY(w:PDeed)(r:List PDeed)(hl:r.length<2^30):kD 113 [.ls ((w::r).map aK)] (aa []) (.slice 0 0 0 (r.length+1) none) (aa [ie 0 (w::r)]):=by
  exact OE Tryz.func113<|Mg 1<|Mz 3 (fun(a:((w::r).map aK:List AV)=[])=>Mw .abs<|j5 _ _ a)<|Mg 3<|M2 .apl (et (by exact j5 _ _:List.map aK (w::r)≠[])<|fM 28 aK (w::r) fun _=>rfl) (by(refine ec (m:=2^31) ?_ ?_ ?_<;>first|omega|(simp only[lM,lC];omega)):small ((w::r).map aK).length 392=true)<|Kf 0<|et (by simp:(AV.slice 0 0 0 ((w::r).map aK).length none)=(AV.slice 0 0 0 (r.length+1) none))<|aJ<|aa [aZ 28 true 0<|(w::r).map aK]
theorem vT(X:List PDeed)(hz:X≠[])(hl:X.length<2^30):kD 113 [.ls (X.map aK)] (aa []) (.slice 0 0 0 X.length none) (aa [ie 0 X]):=by
  cases X with
  |nil=>exact absurd rfl hz
  |cons w r=>exact SY w r (by simp only[lC]at hl;omega)
end Go.Proofs.YtdhkhecalpkngaaGreatDoor
