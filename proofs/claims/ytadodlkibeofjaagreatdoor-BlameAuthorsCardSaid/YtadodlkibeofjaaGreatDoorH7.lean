/- Functions walked: what each of them answers, for the law that a unit's authors are among its contributors: part 7. Conditions: those that each theorem names. -/
import Derived.Test.YtadodlkibeofjaaGreatDoorH6
namespace Go.Proofs.YtadodlkibeofjaaGreatDoor
open Go Go.Ev
theorem xQ:kP 84 [.nils] (.ls ((jJ []).map aV)):=(jZ [] (by simp)).onArgs (.cons Le.nils .nil)
theorem EJ{g:Int->Bool}{K:List Int}{x e:Nat}{S:List PSpan}(h:S=kY g (K.drop (x-1)))(h1:1<=x)(h2:x<K.length)(hg:g (gD K (x-1))=true)(he:e=x+1):S=⟨gD K (x-1),gD K x⟩::kY g (K.drop (e-1)):=by rw[h,CA h1 h2,hg,he]
theorem EK{g:Int->Bool}{K:List Int}{x e:Nat}{S:List PSpan}(h:S=kY g (K.drop (x-1)))(h1:1<=x)(h2:x<K.length)(hg:g (gD K (x-1))=false)(he:e=x+1):S=kY g (K.drop (e-1)):=by rw[h,CA h1 h2,hg,he]
theorem Z7:ba (dL (pn []))=[]:=sJ (by have z:=BZ [];exact Nat.le_zero.1 z)
theorem YO{A B x y:List PSpan}(h1:A=x)(h2:B=y):x++y=A++B:=by rw[h1,h2]
theorem S4{A B x:List PSpan}(h1:A=x)(h2:B=[]):x=A++B:=by rw[h1,h2,ef]
theorem XZ{A B y:List PSpan}(h1:A=[])(h2:B=y):y=A++B:=by rw[h1,h2];rfl
theorem U0{A r:List PSpan}{w:PSpan}(h:A=w::r)(hl:A.length<=1048577):r.length<2^30:=by rw[h,lC]at hl;omega
theorem T7{A B:List PSpan}{w v:PSpan}{r s:List PSpan}(h:A=w::r)(k:B=v::s)(hl:A.length<=1048577)(kl:B.length<=1048577):small (r.length+1+((v::s).map aV).length) 16=true:=by
  rw[h,lC]at hl;rw[k,lC]at kl
  rw[lM,lC];refine eF (m:=2^31) ?_ ?_ ?_<;>omega
theorem Lb{B:List PSpan}{v:PSpan}{s:List PSpan}(k:B=v::s)(kl:B.length<=1048577):small ((v::s).map aV).length 16=true:=by
  rw[k,lC]at kl
  rw[lM,lC];refine eF (m:=2^31) ?_ ?_ ?_<;>omega
def S7(F:Nat)(A:List PSpan)(B:List PSpan)(z20:List PSpan):Prop:=z20=A++B
noncomputable def S6(F:Nat)(A:List PSpan)(B:List PSpan)(z20:List PSpan):List AV×List AObj:=([AV.ls (A.map aV),AV.ls (B.map aV),AV.func (Fn.func F) [] [],AV.nils,AV.ls (z20.map aV),nV z20.length,iV 0],[])
def O9(F:Nat)(A:List PSpan)(B:List PSpan)(z20:List PSpan)(z37:List Int):Prop:=z37=iy z20
noncomputable def O8(F:Nat)(A:List PSpan)(B:List PSpan)(z20:List PSpan)(z37:List Int):List AV×List AObj:=([AV.ls (A.map aV),AV.ls (B.map aV),AV.func (Fn.func F) [] [],AV.ls (z37.map bW)],[])
def O7(F:Nat)(A:List PSpan)(B:List PSpan)(z20:List PSpan)(z37:List Int):Prop:=z37=iy z20
noncomputable def O6(F:Nat)(A:List PSpan)(B:List PSpan)(z20:List PSpan)(z37:List Int):List AV×List AObj:=([AV.ls (A.map aV),AV.ls (B.map aV),AV.func (Fn.func F) [] [],AV.ls (z37.map bW)],[])
theorem Nz(F:Nat)(op:Bool->Bool->Bool)(hF:∀x y,aL Tryz.prog G F [.bool x,.bool y] (.bool (op x y)))(e0:op false false=false)(a b:List PSpan)(ha:a.length<2^30)(hb:b.length<2^30):
    aL Tryz.prog G 284 [.ls (a.map aV),.ls (b.map aV),.func (.func F) [] []] (.ls ((sl op a b).map aV)):=by
  have nA:=jZ a ha
  have nB:=jZ b hb
  have hA:=mA a
  have hB:=mA b
  have hd:=PQ e0 (a:=a) (b:=b) rfl rfl
  generalize jJ a=A at *
  generalize jJ b=B at *
  have lA:=hA.len
  have lB:=hB.len
  have hasA:∀d,aL Tryz.prog G 83 [.ls (A.map aV),.int .i64 d] (.bool (iD A d)):=fun d=>J1 A d hA.sort (by omega)
  have hasB:∀d,aL Tryz.prog G 83 [.ls (B.map aV),.int .i64 d] (.bool (iD B d)):=fun d=>J1 B d hB.sort (by omega)
  obtain⟨g,hg⟩:∃g:Int->Bool,g=fun d=>op (iD A d) (iD B d):=⟨_,rfl⟩
  have hgv:∀d v0,op (iD A d) (iD B d)=v0->g d=v0:=fun d v0 h=>by rw[hg];exact h
  rw[<-hg]at hd
  have hcl:∀x,x=A++B->(iy x).length<2^30:=fun x hx=>by
    have z:=BZ x
    rw[hx,eX]at z
    rw[hx];omega
  have hll:∀x,x=A++B->x.length<2^22:=fun x hx=>by rw[hx,eX];omega
  obtain⟨res,hres⟩:∃res,res=sl op a b:=⟨_,rfl⟩
  rw[<-hres]at hd ⊢
  have hdone:∀x y z,x=A++B->y=iy x->kY g y=z->jJ z=res:=fun x y z h1 h2 h3=>by rw[<-h3,h2,h1];exact hd
  clear hd hg hres hA hB
  have rr0 b' (h:(List.map aV res)=b':=by first|rfl|exact hdone _ _ _ hz20 hz37 (by rw[hx1.2.2,lw hx1.1 (by(first|omega|(simp only[aM]at *;omega)))])|exact(hdone _ _ _ hz20 hz37 (by rw[hx1.2.2.2.2,lw hx1.1 (by(first|omega|(simp only[aM]at *;omega))),ef]))|(rw[hdone _ _ _ hz20 hz37 (by rw[hx1.2.2,lw hx1.1 (by(first|omega|(simp only[aM]at *;omega)))])])|(rw[hdone _ _ _ hz20 hz37 (by rw[hx1.2.2.2.2,lw hx1.1 (by(first|omega|(simp only[aM]at *;omega))),ef])])):=h;exact bp Tryz.func284<|Kp 1 nA<|Kp 0 nB<|Mg 2<|M0 .inn<|Mj (List PSpan) [0,1,2,7,20,21,22] (S6 F A B) (S7 F A B) (fun c=>Mg 0<|Mc A (fun e=>Ml 17 (fg<|by rw[e];rfl:Le (aW []) (aW (List.map aV A)))<|Mz 17 (fun(_:([]:List AV)=[])=>Mg 1<|Mc B (fun e=>Ml 19 (fg<|by rw[e];rfl:Le (aW []) (aW (List.map aV B)))<|Kl 0 20 bD<|Kf 1<|c [] (by exact S4 (by assumption) (by assumption):[]=A++B)) fun e f i=>Ml 19 (fg<|by rw[i]:Le (aW (List.map aV (e::f))) (aW (List.map aV B)))<|M2 .apl (et (by exact ii _ _:List.map aV (e::f)≠[])<|fM 2 aV (e::f) fun _=>rfl) (by exact Lb (by assumption) lB:small (List.map aV (e::f)).length 16=true)<|M2 (.fsl 0 [0,1,2,7] 20<|List.map aV<|e::f) True.intro (cp (aJ 0) (tA aV (e::f) (List.map aV<|e::f).length (by(simp only[b9,cM,eX];done):(e::f).length=(List.map aV (e::f)).length))<|aX WT<|e::f)<|Ml 20 (eP (List.map aV<|e::f) false<|aX WT<|e::f)<|Kl 0 21 (ln aV<|e::f)<|Kf 0<|c (e::f) (by exact XZ (by assumption) (by assumption):e::f=A++B))<|Mg 1<|Mc B (fun e=>Ml 19 (fg<|by rw[e];rfl:Le (aW []) (aW (List.map aV B)))<|Kl 0 20 (eP [] true (aJ 0:aq ([])=0))<|Kf 1<|c [] (by exact S4 (by assumption) (by assumption):[]=A++B)) fun e f i=>Ml 19 (fg<|by rw[i]:Le (aW (List.map aV (e::f))) (aW (List.map aV B)))<|M2 .apl (et (by exact ii _ _:List.map aV (e::f)≠[])<|fM 2 aV (e::f) fun _=>rfl) (by exact Lb (by assumption) lB:small (List.map aV (e::f)).length 16=true)<|M2 (.fsl 0 [0,1,2,7] 20<|List.map aV<|e::f) True.intro (cp (aJ 0) (tA aV (e::f) (List.map aV<|e::f).length (by(simp only[b9,cM,eX];done):(e::f).length=(List.map aV (e::f)).length))<|aX WT<|e::f)<|Ml 20 (eP (List.map aV<|e::f) false<|aX WT<|e::f)<|Kl 0 21 (ln aV<|e::f)<|Kf 0<|c (e::f) (by exact XZ (by assumption) (by assumption):e::f=A++B)) fun e f i=>Ml 17 (fg<|by rw[i]:Le (aW (List.map aV (e::f))) (aW (List.map aV A)))<|Me (SI e f<|by exact U0 (by assumption) lA)<|Mg 0<|Mc B (fun i=>Ml 19 (fg<|by rw[i];rfl:Le (aW []) (aW (List.map aV B)))<|Mg 0<|M2 (.fsl 0 [0,1,2,7] 20<|List.map aV<|e::f) True.intro (cp (aJ 0) (tA aV (e::f) (f.length+1) rfl)<|aX WT<|e::f)<|Ml 20 (eP (List.map aV<|e::f) false<|aX WT<|e::f)<|Kl 0 21 (ln aV<|e::f)<|Kf 0<|c (e::f) (by exact S4 (by assumption) (by assumption):e::f=A++B)) fun i j k=>Ml 19 (fg<|by rw[k]:Le (aW (List.map aV (i::j))) (aW (List.map aV B)))<|M2 .apl (et (by exact ii _ _:List.map aV (i::j)≠[])<|fM 2 aV (i::j) fun _=>rfl) (cp (aJ 0) (by(simp only[b9,cM,eX];done):f.length+1=(List.map aV (e::f)).length) (by exact T7 (by assumption) (by assumption) lA lB:small (f.length+1+(List.map aV (i::j)).length) 16=true))<|M1 (.obj 0<|aZ 2 true (0+1)<|List.map aV<|e::f++i::j) (congrArg (aZ 2 true<|0+1)<|dK (f:=aV) (l:=e::f) (ws:=i::j))<|M2 (.fsl 0 [0,1,2,7] 20<|List.map aV<|e::f++i::j) True.intro (cp (aJ<|0+1) (tA aV (e::f++i::j) (f.length+1+(List.map aV<|i::j).length) (by(simp only[b9,cM,eX];done):(e::f++i::j).length=f.length+1+(List.map aV (i::j)).length))<|aX WT<|e::f++i::j)<|Ml 20 (eP (List.map aV<|e::f++i::j) false<|aX WT<|e::f++i::j)<|Kl 0 21 (ln aV<|e::f++i::j)<|Kf 0<|c (e::f++i::j) (by exact YO (by assumption) (by assumption):e::f++i::j=A++B)) fun c hz20=>have hz20:=hz20;kR Nat Nat (List Int) aV c [0,1,2,7,20,21,22] (fun e _=>([aW<|A.map aV,aW<|B.map aV,bj (bx F) [] [],ab,aW<|c.map aV,nV c.length,nV e],[])) (fun e _ f i j=>([aW<|A.map aV,aW<|B.map aV,bj (bx F) [] [],aI 0 f 0 i none,aW<|c.map aV,nV c.length,nV e],[aZ 1 true f<|j.map bW])) (fun e=>pn c=pn e) (fun e _ f i=>f=i.length/\(0:Nat)<i.length/\pn c=i++pn e) (by rfl) (fun _ _ _ _ _ e f=>Kh 0 e<|Kp 0 HZ<|Mj (List Int) [0,1,2,7] (O8 F A B c) (O9 F A B c) (fun e=>Kl 1 37 bD<|Kf 0<|e [] (by(unfold iy;rw[f];exact Z7.symm):[]=iy c)) fun e hz37=>have hz37:=hz37;have:=hz37▸hcl _ hz20;Mg 1<|Tm Nat Nat Nat (List PSpan) (1:Nat) [0,1,2,7,10,11] (fun c=>([aW<|A.map aV,aW<|B.map aV,bj (bx F) [] [],aW<|e.map bW,ab,nV c],[])) (fun c f i j=>([aW<|A.map aV,aW<|B.map aV,bj (bx F) [] [],aW<|e.map bW,aI 0 f 0 i none,nV c],[aZ 2 true f<|j.map aV])) (fun c=>(1:Nat)<=c/\c<=2^30/\kY g e=kY g (e.drop<|c-1)) (fun c _ f i=>(1:Nat)<=c/\c<=2^30/\f=i.length/\i.length<c/\kY g e=i++kY g (e.drop<|c-1)) (fun c=>2^31-c) (fun c _ _ _=>2^31-c) (by exact⟨af _,by omega,rfl⟩) (fun c hx1 f i=>have hx1:=hx1;have:=hx1.1;have:=hx1.2.1;Kl 2 40 (ln bW e)<|Ka 0 (Int.ofNat c) (Int.ofNat e.length) (fun _ _=>Kl 2 46 (Fl c)<|Mx (aR bW (by(simp only[aM,b9,kH]at *;omega):c-1<(e).length))<|Kp 4 (hasA<|gD e<|c-1)<|Kp 1 (hasB<|gD e<|c-1)<|Mp (hF (iD A<|gD e<|c-1)<|iD B<|gD e<|c-1)<|Mb (op (iD A<|gD e<|c-1)<|iD B<|gD e<|c-1) (fun _=>Kx 3 (aR bW (by(simp only[aM,b9,kH]at *;omega):c<(e).length))<|Kl 6 43 (i7 c)<|Kf 0<|i (c+1) 0 1 [PSpan.mk (gD e<|c-1)<|gD e c] (by exact⟨by(omega),by(simp only[aM]at *;omega),rfl,by(simp only[cM,gp];omega),EJ hx1.2.2 hx1.1 (by(simp only[aM]at *;omega)) (hgv _ _ (by assumption)) rfl⟩)<|by(omega)) fun _=>Kl 1 43 (i7 c)<|Kf 0<|f (c+1) (by exact⟨by(omega),by(simp only[aM]at *;omega),EK hx1.2.2 hx1.1 (by(simp only[aM]at *;omega)) (hgv _ _ (by assumption)) rfl⟩)<|by(omega)) fun _ _=>Kp 0 xQ<|Kf 0<|cY<|rr0<|List.map aV<|jJ []) fun c i j k hx1 _ l=>have hx1:=hx1;have:=hx1.1;have:=hx1.2.1;Kl 2 40 (ln bW e)<|Ka 0 (Int.ofNat c) (Int.ofNat e.length) (fun _ _=>Kl 2 46 (Fl c)<|Mx (aR bW (by(simp only[aM,b9,kH]at *;omega):c-1<(e).length))<|Kp 4 (hasA<|gD e<|c-1)<|Kp 1 (hasB<|gD e<|c-1)<|Mp (hF (iD A<|gD e<|c-1)<|iD B<|gD e<|c-1)<|Mb (op (iD A<|gD e<|c-1)<|iD B<|gD e<|c-1) (fun _=>Kx 3 (aR bW (by(simp only[aM,b9,kH]at *;omega):c<(e).length))<|K1 2 .app (cp (aJ i) (by(rw[b9];first|exact f.1|exact hx1.2.2.1):j=(List.map aV k).length) (by(refine eF (m:=2^31) ?_ ?_ ?_<;>first|omega|(simp only[b9,cM,eX,gp];omega)|(have z:=congrArg List.length f.2.2;rw[ki,eX]at z;have z9:=hll _ hz20;have z2:=f.1;first|omega|(simp only[cM,gp];omega))|(have z:=hx1.2.2.2.1;have z2:=hx1.2.2.1;have z3:=hx1.2.1;first|omega|(simp only[cM,gp];omega))):small (j+1) 16=true))<|M1 (.obj 0<|aZ 2 true (i+1)<|List.map aV<|k++[PSpan.mk (gD e<|c-1)<|gD e c]) (congrArg (aZ 2 true<|i+1)<|dK (f:=aV) (l:=k) (ws:=[PSpan.mk (gD e<|c-1)<|gD e c]))<|Kl 2 43 (i7 c)<|Kf 0<|l (c+1) (i+1) (j+1) (k++[PSpan.mk (gD e<|c-1)<|gD e c]) (by exact⟨by(omega),by(simp only[aM]at *;omega),by rw[eX,<-hx1.2.2.1];rfl,by(have z:=hx1.2.2.2.1;simp only[eX,cM,gp];omega),by rw[hx1.2.2.2.2,EJ rfl hx1.1 (by(simp only[aM]at *;omega)) (hgv _ _ (by assumption)) rfl];simp⟩)<|by(omega)) fun _=>Kl 1 43 (i7 c)<|Kf 0<|l (c+1) i j k (by exact⟨by(omega),by(simp only[aM]at *;omega),hx1.2.2.1,by(have z:=hx1.2.2.2.1;omega),by rw[hx1.2.2.2.2,EK rfl hx1.1 (by(simp only[aM]at *;omega)) (hgv _ _ (by assumption)) rfl]⟩)<|by(omega)) fun _ _=>Mg 0<|M2 (.fsl 0 [] 66<|List.map aV k) True.intro (cp (aJ i) (tA aV k j (by(omega):(k).length=j))<|aX WT k)<|Ml 66 (eP (List.map aV k) false<|aX WT k)<|Mp (jZ k<|by(omega))<|Kf 0<|cY<|rr0<|List.map aV<|jJ k) (fun e _ _ _ f i _ j _ k _ l n=>have:=hll _ hz20;Kt 0 k<|Mx l<|Kl 11 33 (i7 e)<|Mg 0<|M0 (.ren [1,0] [] [0,1,2,7,20,21,22])<|M1 (.frz 1 [0,1,2,7,20,21,22]) (et (aJ true) True.intro)<|Mf<|j 0 2 [f.from_,f.to]<|by exact⟨rfl,by simp,by rw[n];rfl⟩) (fun _ _ e f i _ _ _ j k=>Kh 0 j<|Ke 0 (JR i e f (by(omega)) (by(omega))<|by(have z:=congrArg List.length k.2.2;rw[ki,eX]at z;have z9:=hll _ hz20;omega))<|Mj (List Int) [0,1,2,7] (O6 F A B c) (O7 F A B c) (fun j=>Ke 0 (B0 (dL i) e f (by(rw[(lQ _).length_eq];first|exact k.1|exact k.2.1|(have z:=congrArg List.length k.2.2;rw[ki,eX]at z;have z9:=hll _ hz20;omega))) (by(rw[(lQ _).length_eq];first|exact k.1|exact k.2.1|(have z:=congrArg List.length k.2.2;rw[ki,eX]at z;have z9:=hll _ hz20;omega)))<|by(rw[(lQ _).length_eq];first|exact k.1|exact k.2.1|(have z:=congrArg List.length k.2.2;rw[ki,eX]at z;have z9:=hll _ hz20;omega)))<|M2 (.fsl 0 [0,1,2] 37<|List.map bW<|List.take (ba<|dL i).length<|ba (dL i)++List.replicate ((dL i).length -(ba<|dL i).length) 0) True.intro (cp (aJ e) (zW (f:=bW) (l:=ba (dL i)++List.replicate ((dL i).length -(ba<|dL i).length) 0) (n:=(ba<|dL i).length))<|aX YA<|List.take (ba<|dL i).length<|ba (dL i)++List.replicate ((dL i).length -(ba<|dL i).length) 0)<|Ml 37 (eP (List.map bW<|List.take (ba<|dL i).length<|ba (dL i)++List.replicate ((dL i).length -(ba<|dL i).length) 0) false<|aX YA<|List.take (ba<|dL i).length<|ba (dL i)++List.replicate ((dL i).length -(ba<|dL i).length) 0)<|Kf 0<|j (List.take (ba<|dL i).length<|ba (dL i)++List.replicate ((dL i).length -(ba<|dL i).length) 0) (by(unfold iy;rw[k.2.2];simp[pn]):List.take (ba (dL i)).length (ba (dL i)++List.replicate ((dL i).length -(ba (dL i)).length) (0:Int))=iy c)) fun e hz37=>have hz37:=hz37;have:=hz37▸hcl _ hz20;Mg 1<|Tm Nat Nat Nat (List PSpan) (1:Nat) [0,1,2,7,10,11] (fun c=>([aW<|A.map aV,aW<|B.map aV,bj (bx F) [] [],aW<|e.map bW,ab,nV c],[])) (fun c f i j=>([aW<|A.map aV,aW<|B.map aV,bj (bx F) [] [],aW<|e.map bW,aI 0 f 0 i none,nV c],[aZ 2 true f<|j.map aV])) (fun c=>(1:Nat)<=c/\c<=2^30/\kY g e=kY g (e.drop<|c-1)) (fun c _ f i=>(1:Nat)<=c/\c<=2^30/\f=i.length/\i.length<c/\kY g e=i++kY g (e.drop<|c-1)) (fun c=>2^31-c) (fun c _ _ _=>2^31-c) (by exact⟨af _,by omega,rfl⟩) (fun c hx1 f i=>have hx1:=hx1;have:=hx1.1;have:=hx1.2.1;Kl 2 40 (ln bW e)<|Ka 0 (Int.ofNat c) (Int.ofNat e.length) (fun _ _=>Kl 2 46 (Fl c)<|Mx (aR bW (by(simp only[aM,b9,kH]at *;omega):c-1<(e).length))<|Kp 4 (hasA<|gD e<|c-1)<|Kp 1 (hasB<|gD e<|c-1)<|Mp (hF (iD A<|gD e<|c-1)<|iD B<|gD e<|c-1)<|Mb (op (iD A<|gD e<|c-1)<|iD B<|gD e<|c-1) (fun _=>Kx 3 (aR bW (by(simp only[aM,b9,kH]at *;omega):c<(e).length))<|Kl 6 43 (i7 c)<|Kf 0<|i (c+1) 0 1 [PSpan.mk (gD e<|c-1)<|gD e c] (by exact⟨by(omega),by(simp only[aM]at *;omega),rfl,by(simp only[cM,gp];omega),EJ hx1.2.2 hx1.1 (by(simp only[aM]at *;omega)) (hgv _ _ (by assumption)) rfl⟩)<|by(omega)) fun _=>Kl 1 43 (i7 c)<|Kf 0<|f (c+1) (by exact⟨by(omega),by(simp only[aM]at *;omega),EK hx1.2.2 hx1.1 (by(simp only[aM]at *;omega)) (hgv _ _ (by assumption)) rfl⟩)<|by(omega)) fun _ _=>Kp 0 xQ<|Kf 0<|cY<|rr0<|List.map aV<|jJ []) fun c f i j hx1 _ l=>have hx1:=hx1;have:=hx1.1;have:=hx1.2.1;Kl 2 40 (ln bW e)<|Ka 0 (Int.ofNat c) (Int.ofNat e.length) (fun _ _=>Kl 2 46 (Fl c)<|Mx (aR bW (by(simp only[aM,b9,kH]at *;omega):c-1<(e).length))<|Kp 4 (hasA<|gD e<|c-1)<|Kp 1 (hasB<|gD e<|c-1)<|Mp (hF (iD A<|gD e<|c-1)<|iD B<|gD e<|c-1)<|Mb (op (iD A<|gD e<|c-1)<|iD B<|gD e<|c-1) (fun _=>Kx 3 (aR bW (by(simp only[aM,b9,kH]at *;omega):c<(e).length))<|K1 2 .app (cp (aJ f) (by(rw[b9];first|exact k.1|exact hx1.2.2.1):i=(List.map aV j).length) (by(refine eF (m:=2^31) ?_ ?_ ?_<;>first|omega|(simp only[b9,cM,eX,gp];omega)|(have z:=congrArg List.length k.2.2;rw[ki,eX]at z;have z9:=hll _ hz20;have z2:=k.1;first|omega|(simp only[cM,gp];omega))|(have z:=hx1.2.2.2.1;have z2:=hx1.2.2.1;have z3:=hx1.2.1;first|omega|(simp only[cM,gp];omega))):small (i+1) 16=true))<|M1 (.obj 0<|aZ 2 true (f+1)<|List.map aV<|j++[PSpan.mk (gD e<|c-1)<|gD e c]) (congrArg (aZ 2 true<|f+1)<|dK (f:=aV) (l:=j) (ws:=[PSpan.mk (gD e<|c-1)<|gD e c]))<|Kl 2 43 (i7 c)<|Kf 0<|l (c+1) (f+1) (i+1) (j++[PSpan.mk (gD e<|c-1)<|gD e c]) (by exact⟨by(omega),by(simp only[aM]at *;omega),by rw[eX,<-hx1.2.2.1];rfl,by(have z:=hx1.2.2.2.1;simp only[eX,cM,gp];omega),by rw[hx1.2.2.2.2,EJ rfl hx1.1 (by(simp only[aM]at *;omega)) (hgv _ _ (by assumption)) rfl];simp⟩)<|by(omega)) fun _=>Kl 1 43 (i7 c)<|Kf 0<|l (c+1) f i j (by exact⟨by(omega),by(simp only[aM]at *;omega),hx1.2.2.1,by(have z:=hx1.2.2.2.1;omega),by rw[hx1.2.2.2.2,EK rfl hx1.1 (by(simp only[aM]at *;omega)) (hgv _ _ (by assumption)) rfl]⟩)<|by(omega)) fun _ _=>Mg 0<|M2 (.fsl 0 [] 66<|List.map aV j) True.intro (cp (aJ f) (tA aV j i (by(omega):(j).length=i))<|aX WT j)<|Ml 66 (eP (List.map aV j) false<|aX WT j)<|Mp (jZ j<|by(omega))<|Kf 0<|cY<|rr0<|List.map aV<|jJ j) fun e _ f i j _ _ k l _ n _ o _ p q=>have:=hll _ hz20;Kt 0 o<|Mx p<|K1 8 .app (cp (aJ f) (by(rw[b9];first|exact q.1|exact hx1.2.2.1):i=(List.map bW j).length) (by(refine eF (m:=2^31) ?_ ?_ ?_<;>first|omega|(simp only[b9,cM,eX,gp];omega)|(have z:=congrArg List.length q.2.2;rw[ki,eX]at z;have z9:=hll _ hz20;have z2:=q.1;first|omega|(simp only[cM,gp];omega))|(have z:=hx1.2.2.2.1;have z2:=hx1.2.2.1;have z3:=hx1.2.1;first|omega|(simp only[cM,gp];omega))):small (i+2) 8=true))<|M1 (.obj 0<|aZ 1 true (f+1)<|List.map bW<|j++[k.from_,k.to]) (congrArg (aZ 1 true<|f+1)<|dK (f:=bW) (l:=j) (ws:=[k.from_,k.to]))<|Kl 1 33 (i7 e)<|K1 0 (.frz 1 [0,1,2,7,20,21,22]) (et (tR 1 true (f+1) 1<|aX YA<|j++[k.from_,k.to]) True.intro)<|Mf<|n (f+1) (i+2) (j++[k.from_,k.to])<|by exact⟨by rw[eX,<-q.1];rfl,by simp,by rw[q.2.2,De];simp⟩
theorem XD(x y:Bool):kP 285 [.bool x,.bool y] (.bool (x||y)):=by
  have rr0 b' (h:(x||y)=b':=by simp only[aS,ax,bS, *]):=h;exact bp Tryz.func285<|Kb 2 x (fun a=>MV a<|Ky 0<|rr0 true) fun a=>Kw 0 a<|Ky 0<|rr0 y
theorem Wz(x y:Bool):kP 286 [.bool x,.bool y] (.bool (x&&y)):=by
  have rr0 b' (h:(x&&y)=b':=by simp only[aS,ax,bS, *]):=h;exact bp Tryz.func286<|Kb 2 x (fun a=>Ku 0 a<|Ky 0<|rr0 y) fun a=>My a<|Ky 0<|rr0 false
theorem P0(a b:List PSpan)(ha:a.length<2^30)(hb:b.length<2^30):kP 247 [.ls (a.map aV),.ls (b.map aV)] (.ls ((sl (· || ·) a b).map aV)):=by
  have h:=Nz 285 (· || ·) XD rfl a b ha hb
  exact bp Tryz.func247<|Kp 2 h<|Kf 0<|bw<|aW<|(sl (fun c d=>c||d) a b).map aV
theorem Rl(a b:List PSpan)(ha:a.length<2^30)(hb:b.length<2^30):kP 250 [.ls (a.map aV),.ls (b.map aV)] (.ls ((sl (· && ·) a b).map aV)):=by
  have h:=Nz 286 (· && ·) Wz rfl a b ha hb
  exact bp Tryz.func250<|Kp 2 h<|Kf 0<|bw<|aW<|(sl (fun c d=>c&&d) a b).map aV
noncomputable def o6(a:List PSpan)(d:Int):List PSpan:=sl (· && ·) a [⟨0,d⟩]
noncomputable def qQ(a:List PSpan)(d:Int):List PSpan:=sl (· || ·) (o6 a d) [⟨d,1048577⟩]
theorem sr(a:List PSpan)(d:Int):NrmS (o6 a d):=zR _
theorem uM(a:List PSpan)(d:Int):NrmS (qQ a d):=zR _
theorem FT(a:List PSpan)(d:Int)(ha:a.length<2^30):kP 196 [.ls (a.map aV),iV d] (.ls ((o6 a d).map aV)):=by
  have h:kP 250 [.ls (a.map aV),.ps [aV ⟨0,d⟩] true] (.ls ((o6 a d).map aV)):=(Rl a [⟨0,d⟩] ha (by simp)).onArgs (.cons (Le.refl _) (.cons (Le.ps _ _ rfl) .nil))
  exact bp Tryz.func196<|Kp 4 h<|Kf 0<|bw<|aW<|(o6 a d).map aV
theorem Sx(a:List PSpan)(d:Int)(ha:a.length<2^30):kP 194 [.ls (a.map aV),iV d] (.ls ((qQ a d).map aV)):=by
  have h0:=FT a d ha
  have hl:=(sr a d).len
  have h:kP 247 [.ls ((o6 a d).map aV),.ps [aV ⟨d,1048577⟩] true] (.ls ((qQ a d).map aV)):=(P0 (o6 a d) [⟨d,1048577⟩] (by omega) (by simp)).onArgs (.cons (Le.refl _) (.cons (Le.ps _ _ rfl) .nil))
  exact bp Tryz.func194<|Kp 2 h0<|Kp 2 h<|Kf 0<|bw<|aW<|(qQ a d).map aV
noncomputable def se(k:Int):Bool:=ay k 7||ay k 9
noncomputable def lK(k:Int):Bool:=se k||ay k 8
noncomputable def sU(k:Int):AV:=match se k with|true=>.func (.func 194) [] []|false=>match ay k 8 with|true=>.func (.func 196) [] []|false=>.nilf
theorem Ax(k:Int):e9 (some .nilf) true (bv false 1 [(0,1)] (iV k) [⟨iV 7,.func (.func 194) [] [],0⟩,⟨iV 9,.func (.func 194) [] [],1⟩,⟨iV 8,.func (.func 196) [] [],2⟩] 0)=some (.tuple [sU k,.bool (lK k)]):=by
  unfold sU lK se
  simp only[bv,qH,KK,kL]
  cases h1:ay k 7<;>cases h2:ay k 9<;>cases h3:ay k 8<;>rfl
theorem P6{k:Int}(h:se k=true):Le (.func (.func 194) [] []) (sU k):=by unfold sU;rw[h];exact Le.refl _
theorem TN{k:Int}(h:se k=false)(h2:lK k=true):Le (.func (.func 196) [] []) (sU k):=by
  unfold lK at h2;rw[h,Bool.false_or]at h2
  unfold sU;rw[h,h2];exact Le.refl _
noncomputable def P7:List AEnt:=[⟨iV 7,.func (.func 194) [] [],0⟩,⟨iV 9,.func (.func 194) [] [],1⟩,⟨iV 8,.func (.func 196) [] [],2⟩]
theorem TL(x:PItem):kD 122 [] (aa [.row 25 false 0 [eI x]]) (.map 1) (aa [.row 25 false 0 [eI x],.map P7 3]):=by
  exact fS Tryz.func122 fun a=>Kf 6 a
theorem TM(s:PStart)(d o:PDeed):kD 122 [] (aa [.row 3 false 0 [ap s],.row 28 false 0 [aU d],.row 28 false 0 [aU o]]) (.map 3) (aa [.row 3 false 0 [ap s],.row 28 false 0 [aU d],.row 28 false 0 [aU o],.map P7 3]):=by
  exact fS Tryz.func122 fun a=>Kf 6 a
noncomputable def ra(x:PItem)(a i:Int):Bool:=ay x.act a&&(match ay x.kind 11 with|true=>ay x.item i|false=>lK x.kind&&(ay x.item i||ay x.item (-1)))
theorem NP(x:PItem)(a i:Int):kP 123 [eI x,iV a,iV i] (.bool (ra x a i)):=by
  have hlk:=Ax
  have rr0 b' (h:(ra x a i)=b':=by unfold ra;generalize ay x.act a=p1 at *;generalize ay x.kind 11=p2 at *;generalize ay x.item i=p3 at *;generalize ay x.item (-1)=p4 at *;generalize lK x.kind=p5 at *;simp only[aS,ax,bS, *]):=h;let q:=[ak (iLx x)];let q1:=bj (bx 194) [] [];exact bp Tryz.func123<|Kc 5 x.act a (fun _ _=>Ky 0<|rr0 false) fun _ _=>Kj 2 x.kind 11 (fun _ _=>Kf 4<|cb<|rr0<|ay x.item i) fun _ _=>M3 (.efx true (AV.map 1)<|aa [aZ 25 false 0 q,AObj.map [AEnt.mk (iV 7) q1 0,AEnt.mk (iV 9) q1 1,AEnt.mk (iV 8) (bj (bx 196) [] []) 2] 3]) (et rt ti) (et (aJ<|some<|aZ 25 false 0 q) ti) (TL x)<|K1 1 (.look<|cK [sU x.kind,eO<|lK x.kind]) (hlk x.kind)<|Kb 6 (lK x.kind) (fun b=>Kt 0 b<|Kt 0 b<|Kt 0 b<|Kt 0 b<|Kj 0 x.item i (fun c _=>Mt c<|Mt c<|Mt b<|MV c<|MV b<|Ky 0<|rr0 true) fun c _=>Kh 0 c<|Kh 0 c<|Kt 0 b<|My c<|MV b<|Kf 0<|cb<|rr0<|ay x.item (-1)) fun b=>Mh b<|Mh b<|Mh b<|Mh b<|Mh b<|My b<|Ky 0<|rr0 false
noncomputable abbrev gF(nm:aH):AObj:=.row 1 false 0 [.str nm]
noncomputable def si(nm:aH)(d:PDeed):Bool:=ay d.it.kind 10&&dM d.it.event nm
theorem Sw(nm:aH)(d:PDeed):kD 249 [aU d,.ptr 0 0 0 0] (aa [gF nm]) (.bool (si nm d)) (aa [gF nm]):=by
  let q:=aa [aZ 1 false 0 [aj nm]];exact PN Tryz.func249<|Kj 6 d.it.kind 10 (fun a _=>Kt 0 a<|Kt 0 a<|Kt 0 a<|Kt 0 a<|Ku 0 a<|K1 0 (.frz 1 [3]) (et rt ti)<|Mf<|et (by unfold si;generalize ay d.it.kind 10=p1 at *;generalize dM d.it.event nm=p2 at *;simp only[aS,ax,bS, *]:(AV.bool (dM d.it.event nm))=(AV.bool (si nm d)))<|aJ q) fun a _=>Mh a<|Mh a<|Mh a<|Mh a<|My a<|K1 0 (.frz 1 [3]) (et rt ti)<|Mf<|et (by unfold si;generalize ay d.it.kind 10=p1 at *;generalize dM d.it.event nm=p2 at *;simp only[aS,ax,bS, *]:(AV.bool false)=(AV.bool (si nm d)))<|aJ q
noncomputable def jx(nm:aH):List PDeed->Nat->Int
  |[],_=> -1
  |d::r,i=>match si nm d with|true=>Int.ofNat i|false=>jx nm r (i+1)
theorem MA(nm:aH):∀(l:List PDeed)(i:Nat),jx nm l i<Int.ofNat (i+l.length)/\(0<=jx nm l i\/jx nm l i= -1)
  |[],i=>⟨by simp only[jx,oN];omega,.inr rfl⟩
  | d::r,i=>by
    have:=MA nm r (i+1)
    cases h:si nm d<;>simp only[jx,h,oN,lC]at * <;>omega
theorem ZP{nm:aH}{d:PDeed}{r:List PDeed}{i:Nat}(h:si nm d=true):jx nm (d::r) i=Int.ofNat i:=by simp only[jx,h]
theorem ZR{nm:aH}{d:PDeed}{r:List PDeed}{i:Nat}(h:si nm d=false):jx nm (d::r) i=jx nm r (i+1):=by simp only[jx,h]
theorem DJ(nm:aH)(l:List PDeed)(hl:l.length<2^40):kD 248 [.ls (l.map aU),.func (.func 249) [] [.ptr 0 0 0 0]] (aa [gF nm]) (iV (jx nm l 0)) (aa [gF nm]):=by
  let q:=aa [aZ 1 false 0 [aj nm]];exact PN Tryz.func248<|Kl 2 7 (ln aU l)<|Mg 0<|td aU l [0,1,7,8] (fun a _=>([aW<|l.map aU,bj (bx 249) [] [bX 0 0 0 0],nV l.length,nV a],[aZ 1 false 0 [aj nm]])) (fun a=>jx nm l (0:Nat)=jx nm a (l.length-a.length)) (by(rw[Nat.sub_self])) (fun _ _ _ _ _ a b=>Kh 0 a<|Kf 0<|et (by(rw[b];rfl):(iV (-1))=(iV (jx nm l 0)))<|aJ q) fun a _ b _ c d e f g _ h i=>have:=ib b f;Kt 0 g<|Kx 4 h<|Ke 0 (Sw nm c)<|Mb (si nm c) (fun _=>Kf 1<|et (by(rw[i,ZP (by assumption)];congr 2;have z:=Ja (b.trans f) (by simp) (by simp only[lC];omega:(l.length-(d.length+1))+(c::d).length=l.length);exact z):(nV a)=(iV (jx nm l 0)))<|aJ q) fun _=>Kl 0 18 (dt a)<|Kf 0<|e<|by(rw[i,ZR (by assumption)];congr 1;have:=ib b f;simp only[lC];omega)
theorem Sj(d:Int):kP 194 [.nils,iV d] (.ls ((qQ [] d).map aV)):=(Sx [] d (by simp)).onArgs (.cons Le.nils (.cons (Le.refl _) .nil))
theorem KW(nm:aH)(l:List PDeed)(hl:l.length<2^40)(h:aB (jx nm l 0) 0=true):kP 195 [.str nm,.ls (l.map aU)] (.tuple [iV 0,.bool false]):=by
  exact bp Tryz.func195<|Ke 4 (DJ nm l hl)<|Kt 2 h<|Kf 1<|bw<|cK [iV 0,eO false]
theorem KJ(nm:aH)(l:List PDeed)(hl:l.length<2^40)(h:aB (jx nm l 0) 0=false):kP 195 [.str nm,.ls (l.map aU)] (.tuple [iV (gD l (jx nm l 0).toNat).it.day,.bool true]):=by
  have g1:=aF h
  have g2:=(MA nm l 0).1
  exact bp Tryz.func195<|Ke 4 (DJ nm l hl)<|Kh 2 h<|Kl 1 13 (Bs (x:=jx nm l 0) oA)<|Mx (aR aU (by(simp only[oN,lM,lS]at *;omega):(jx nm l 0).toNat<(l).length))<|Kf 4<|bw<|cK [iV (gD l (jx nm l 0).toNat).it.day,eO true]
noncomputable def lE(s:PStart)(l:List PDeed):List PSpan:=match ay s.kind 1 with|true=>qQ [] s.day|false=>match ay s.kind 3 with|true=>(match aB (jx s.event l 0) 0 with|true=>[]|false=>qQ [] (gD l (jx s.event l 0).toNat).it.day)|false=>[]
theorem Oe(s:PStart)(l:List PDeed)(hl:l.length<2^40)(hi:aB (jx s.event l 0) 0=true):kP 120 [ap s,.ls (l.map aU)] (.ls ((lE s l).map aV)):=by
  have he:=KW s.event l hl hi
  have e:lE s l=match ay s.kind 1 with|true=>qQ [] s.day|false=>[]:=(by unfold lE;rw[hi];cases ay s.kind 1<;>cases ay s.kind 3<;>rfl)
  rw[e]
  have rr0 b' (h:((match ay s.kind 1 with|true=>qQ [] s.day|false=>[]).map aV)=b':=by generalize ay s.kind 1=p1 at *;(rw[h0]);try rfl):=h;exact bp Tryz.func120<|Kj 5 s.kind 1 (fun h0 _=>Kp 1 (Sj s.day)<|Kf 0<|cY<|rr0<|(qQ [] s.day).map aV) fun h0 _=>Kj 1 s.kind 3 (fun _ _=>Kp 2 he<|Kf 7 (Le.lsn<|rr0 []:Le _ (ab))) fun _ _=>Kf 0 (Le.lsn<|rr0 []:Le _ (ab))
theorem Of(s:PStart)(l:List PDeed)(hl:l.length<2^40)(hi:aB (jx s.event l 0) 0=false):kP 120 [ap s,.ls (l.map aU)] (.ls ((lE s l).map aV)):=by
  have he:=KJ s.event l hl hi
  have e:lE s l=match ay s.kind 1 with|true=>qQ [] s.day|false=>match ay s.kind 3 with|true=>qQ [] (gD l (jx s.event l 0).toNat).it.day |false=>[]:=(by unfold lE;rw[hi])
  rw[e]
  have rr0 b' (h:((match ay s.kind 1 with|true=>qQ [] s.day|false=>match ay s.kind 3 with|true=>qQ [] (gD l (jx s.event l 0).toNat).it.day |false=>[]).map aV)=b':=by generalize ay s.kind 1=p1 at *;generalize ay s.kind 3=p3 at *;(rw[h0]);(first|rw[h1]|skip);try rfl):=h;exact bp Tryz.func120<|Kj 5 s.kind 1 (fun h0 _=>Kp 1 (Sj s.day)<|Kf 0<|cY<|rr0<|(qQ [] s.day).map aV) fun h0 _=>Kj 1 s.kind 3 (fun h1 _=>Kp 2 he<|Kp 7 (Sj (gD l (jx s.event l 0).toNat).it.day)<|Kf 0<|cY<|rr0<|(qQ [] (gD l (jx s.event l 0).toNat).it.day).map aV) fun h1 _=>Kf 0 (Le.lsn<|rr0 []:Le _ (ab))
theorem JT(s:PStart)(l:List PDeed)(hl:l.length<2^40):kP 120 [ap s,.ls (l.map aU)] (.ls ((lE s l).map aV)):=by
  cases hi:aB (jx s.event l 0) 0
  · exact Of s l hl hi
  · exact Oe s l hl hi
noncomputable def sE(d o:PDeed)(days:List PSpan):List PSpan:=match lK o.it.kind&&ra o.it d.act d.item with|true=>(match se o.it.kind with|true=>qQ days o.it.day|false=>o6 days o.it.day)|false=>days
noncomputable def mK(d:PDeed):List PDeed->List PSpan->List PSpan
  |[],days=>days
  |o::r,days=>mK d r (sE d o days)
noncomputable def du(s:PStart)(d:PDeed)(l:List PDeed):List PSpan:=match aB d.it.kind 0||aB 6 d.it.kind with|true=>[]|false=>mK d l (lE (effS s d.it.start) l)
theorem Og(s:PStart)(l:List PDeed):(lE s l).length<=1048577:=by
  have h:=fun d=>(uM [] d).len
  unfold lE
  cases ay s.kind 1<;>cases ay s.kind 3<;>cases aB (jx s.event l 0) 0<;>simp only[lN]<;>first|exact h _|omega
theorem nX(s:PStart)(d:PDeed)(l:List PDeed)(hl:l.length<2^40):kP 82 [ap s,aU d,.ls (l.map aU)] (.ls ((du s d l).map aV)):=by
  have hlk:=Ax
  have hle1:∀k,se k=true->Le (.func (.func 194) [] []) (sU k):=fun k h=>P6 h
  have hle2:∀k,se k=false->lK k=true->Le (.func (.func 196) [] []) (sU k):=fun k h h2=>TN h h2
  have hil:=Og (effS s d.it.start) l
  have hin:∀b,(aB d.it.kind 0||aB 6 d.it.kind)=b->du s d l=match b with|true=>[]|false=>mK d l (lE (effS s d.it.start) l):=fun b h=>by unfold du;rw[h]
  have hst:∀(o:PDeed)(r:List PDeed)(days:List PSpan),mK d (o::r) days=mK d r (sE d o days):=fun o r days=>rfl
  have rr0 b' (h:((du s d l).map aV)=b':=by first|(rw[hin true (by simp only[aS,ax,bS, *];try rfl)];rfl)|(rw[hin false (by simp only[aS,ax,bS, *];try rfl)];first|exact congrArg _ hj0.2|exact congrArg _ hj0.2.symm|(rw[hj0.2];rfl))):=h;let q1:=[ak (dLx d)];let q2:=[ak [iV s.kind,iV s.day,aj s.event]];let q3:=bj (bx 194) [] [];exact bp Tryz.func82<|Ka 7 d.it.kind 0 (fun a _=>Mt a<|Mt a<|Mt a<|MV a<|Kf 1 (Le.lsn<|rr0 []:Le _ (ab))) fun a _=>Kh 0 a<|Kh 0 a<|Kh 0 a<|Kw 0 a<|Mb (aB 6 d.it.kind) (fun a=>have:=aA a;Kf 0 (Le.lsn<|rr0 []:Le _ (ab))) fun a=>have:=aF a;Kp 3 (H7 s d.it.start)<|Kp 0 (JT (effS s d.it.start) l hl)<|Kl 2 30 (ln aU l)<|Mg 0<|XK (0:Nat) l (lE (effS s d.it.start) l) [4,7,29,30,31] (fun a _ c=>([bX 1 0 0 0,aW<|c.map aV,aW<|l.map aU,nV l.length,nV a],[aZ 3 false 0 [ak [iV s.kind,iV s.day,aj s.event]],aZ 28 false 0 [ak (dLx d)]])) (fun a c e=>(l).drop a=c/\e.length<=1048577/\mK d l (lE (effS s d.it.start) l)=mK d c e) (fun _ a _=>a.length) (et rfl<|by(exact⟨hil,rfl⟩)) fun a c e f g=>Mc c (fun a=>have c:=gH f.1 a;have hj0:=jA (J:=fun a c=>c.length<=1048577/\mK d l (lE (effS s d.it.start) l)=mK d a c) (a:=e) a f.2;Kh 0 c<|Kf 1<|cY<|rr0<|e.map aV) fun c i j=>let m:=[ak (dLx c)];have n:=gI f.1 j;have:=aA n;have p:=gG (enc:=aU) f.1 j;have hj0:=c8 (J:=fun a c=>c.length<=1048577/\mK d l (lE (effS s d.it.start) l)=mK d a c) (a:=e) j f.2;Kt 0 n<|Mx p<|Mg 2<|M3 (.efx true (AV.map 3)<|aa [aZ 3 false 0 q2,aZ 28 false 0 q1,aZ 28 false 0 m,AObj.map [AEnt.mk (iV 7) q3 0,AEnt.mk (iV 9) q3 1,AEnt.mk (iV 8) (bj (bx 196) [] []) 2] 3]) (js rt rt rt ti) (js (aJ<|some<|aZ 28 false 0 m) (aJ<|some<|aZ 28 false 0 q1) (aJ<|some<|aZ 3 false 0 q2) ti) (TM s d c)<|K1 2 (.look<|cK [sU c.it.kind,eO<|lK c.it.kind]) (hlk c.it.kind)<|Kb 6 (lK c.it.kind) (fun m=>Kt 0 m<|Kt 0 m<|Kt 0 m<|Kt 0 m<|Kt 0 m<|Kt 0 m<|Mp (NP c.it d.act d.item)<|MV m<|Mb (ra c.it d.act d.item) (fun _=>Ks 4 (se c.it.kind) (fun m=>Ml 53 (hle1 c.it.kind m)<|Mp (Sx e c.it.day oA)<|Kl 1 59 (dt a)<|K1 0 (.frz 2 [4,7,29,30,31]) (cp rt rt ti)<|Mf<|g (a+1) i (qQ e c.it.day) (et (cZ f.1 j)<|by exact⟨(uM _ _).len,by rw[hj0.2,hst];simp only[sE, *];rfl⟩)<|gY j) fun n=>Ml 53 (hle2 c.it.kind n m)<|Mp (FT e c.it.day oA)<|Kl 1 59 (dt a)<|K1 0 (.frz 2 [4,7,29,30,31]) (cp rt rt ti)<|Mf<|g (a+1) i (o6 e c.it.day) (et (cZ f.1 j)<|by exact⟨(sr _ _).len,by rw[hj0.2,hst];simp only[sE, *];rfl⟩)<|gY j) fun _=>Kl 0 59 (dt a)<|K1 0 (.frz 2 [4,7,29,30,31]) (cp rt rt ti)<|Mf<|g (a+1) i e (et (cZ f.1 j)<|by exact⟨hj0.1,by rw[hj0.2,hst];simp only[sE,aS,ax,bS, *];try rfl⟩)<|gY j) fun c=>Mh c<|Mh c<|Mh c<|Mh c<|Mh c<|Mh c<|My c<|Kl 1 59 (dt a)<|K1 0 (.frz 2 [4,7,29,30,31]) (cp rt rt ti)<|Mf<|g (a+1) i e (et (cZ f.1 j)<|by exact⟨hj0.1,by rw[hj0.2,hst];simp only[sE,aS,ax,bS, *];try rfl⟩)<|gY j
noncomputable abbrev iM(d:Int):AObj:=.row 1 false 0 [iV d]
noncomputable abbrev qC:AObj:=.row 1 false 0 [.nils]
noncomputable abbrev qZ(i ep n:Nat):AObj:=.row 1 false 0 [.slice i ep 0 n none]
noncomputable abbrev da(m:List (Int×PStart)):AObj:=.map (bH ap m 0) m.length
noncomputable abbrev gC(d:PDeed):AObj:=.row 28 false 0 [aU d]
noncomputable abbrev pT(ep:Nat)(l:List PDeed):AObj:=.row 28 true ep (l.map aU)
def dI:PStart:=⟨0,0,[]⟩
def dU(m:List (Int×PStart))(k:Int):PStart:=(gh k m).getD dI
theorem Aj(m:List (Int×PStart))(k:Int):e9 (some (.agg [iV 0,iV 0,.str []])) false (bv false 1 [(0,1)] (iV k) (bH ap m 0) 0)=some (ap (dU m k)):=by
  rw[Aw]
  cases h:gh k m<;>simp only[dU,h,Option.getD]<;>rfl
theorem Ce(m:List (Int×PStart))(a:PAct):rT (bH ap m 0) m.length (iV a.number) (.agg [iV a.start.kind,iV a.start.day,.str a.start.event]) (bv false 1 [(0,1)] (iV a.number) (bH ap m 0) 0)=some (bH ap (jc a.number a.start m) 0,(jc a.number a.start m).length):=Cf (f:=ap) a.number a.start m
def yJ(l:List PAct)(m:List (Int×PStart)):List (Int×PStart):=l.foldl (fun m a=>jc a.number a.start m) m
theorem Hq(s:PStart)(d:PDeed)(l:List PDeed):NrmS (du s d l):=by
  have h1:∀(s:PStart),NrmS (lE s l):=fun s=>by
    unfold lE
    cases ay s.kind 1<;>cases ay s.kind 3<;>cases aB (jx s.event l 0) 0<;>first|exact yj|exact uM _ _
  have h2:∀(r:List PDeed)(days:List PSpan),NrmS days->NrmS (mK d r days):=by
    intro r
    induction r with
    |nil=>intro days h;exact h
    | cons o r ih=>
      intro days h
      refine ih _ ?_
      unfold sE
      cases lK o.it.kind&&ra o.it d.act d.item<;>cases se o.it.kind<;>first|exact h|exact uM _ _|exact sr _ _
  unfold du
  cases aB d.it.kind 0||aB 6 d.it.kind
  · exact h2 l _ (h1 _)
  · exact yj
theorem mY(s:PStart)(d:PDeed)(l:List PDeed)(day:Int):kP 50 [.ls ((du s d l).map aV),iV day] (.bool (iD (du s d l) day)):=by
  have hn:=Hq s d l
  have h:=Iq (du s d l) day (nF hn.len (by decide))
  rwa[show jJ (du s d l)=du s d l from(Ur hn).symm]at h
noncomputable def Yy(p:aH)(d:PDeed):Bool:=dM d.it.for_ []||dM d.it.for_ p
noncomputable def CM(day:Int)(p:aH)(m:List (Int×PStart))(ds:List PDeed)(d:PDeed):Bool:=Yy p d&&iD (du (dU m d.act) d ds) day
noncomputable def sb(day:Int)(p:aH)(m:List (Int×PStart))(ds l:List PDeed):List PDeed:=l.filter fun d=>f9 d.it.kind&&CM day p m ds d
theorem aa8(d:PDeed)(ss:List PSpan)(day:Int)(p:aH)(m:List (Int×PStart))(hc:kP 50 [.ls (ss.map aV),iV day] (.bool false)):kD 49 [aU d,.ls (ss.map aV),.ptr 1 0 0 0,.ptr 0 0 0 0,.ptr 2 0 0 0] (aa [iM day,gF p,qC,da m,gC d]) (.tuple []) (aa [iM day,gF p,qC,da m,gC d]):=by
  exact fS Tryz.func49 fun a=>Kb 5 (dM d.it.for_ (ByteArray.mk #[]).data.toList) (fun b=>Mt b<|Mt b<|Mt b<|Mt b<|MV b<|Kp 2 hc<|K1 1 (.frz 5 []) (yg rt (tM m.length 5<|aD (f:=ap) (fun _=>rfl) m 0) rt rt rt ti)<|Mf a) fun b=>Kh 0 b<|Kh 0 b<|Kh 0 b<|Kh 0 b<|Kw 0 b<|Kb 0 (dM d.it.for_ p) (fun b=>Kt 0 b<|Kt 0 b<|Mp hc<|MV b<|K1 0 (.frz 5 []) (yg rt (tM m.length 5<|aD (f:=ap) (fun _=>rfl) m 0) rt rt rt ti)<|Mf a) fun b=>Mh b<|Mh b<|My b<|K1 0 (.frz 5 []) (yg rt (tM m.length 5<|aD (f:=ap) (fun _=>rfl) m 0) rt rt rt ti)<|Mf a
theorem aa7(d:PDeed)(ss:List PSpan)(day:Int)(p:aH)(m:List (Int×PStart))(h1:dM d.it.for_ []=false)(h2:dM d.it.for_ p=false):kD 49 [aU d,.ls (ss.map aV),.ptr 1 0 0 0,.ptr 0 0 0 0,.ptr 2 0 0 0] (aa [iM day,gF p,qC,da m,gC d]) (.tuple []) (aa [iM day,gF p,qC,da m,gC d]):=by
  exact fS Tryz.func49 fun a=>Kh 5 h1<|Kh 0 h1<|Kh 0 h1<|Kh 0 h1<|Kh 0 h1<|Kw 0 h1<|Kh 0 h2<|Mh h2<|Mh h2<|My h2<|K1 0 (.frz 5 []) (yg rt (tM m.length 5<|aD (f:=ap) (fun _=>rfl) m 0) rt rt rt ti)<|Mf a
theorem aa6(d:PDeed)(ss:List PSpan)(day:Int)(p:aH)(m:List (Int×PStart))(hc:kP 50 [.ls (ss.map aV),iV day] (.bool true))(h1:dM d.it.for_ []=true):kD 49 [aU d,.ls (ss.map aV),.ptr 1 0 0 0,.ptr 0 0 0 0,.ptr 2 0 0 0] (aa [iM day,gF p,qC,da m,gC d]) (.tuple []) (aa [iM day,gF p,qZ 5 0 1,da m,gC d,pT 0 [d]]):=by
  exact fS Tryz.func49 fun a=>Kt 5 h1<|Mt h1<|Mt h1<|Mt h1<|Mt h1<|MV h1<|Kp 2 hc<|K1 6 (.ren [0,1,2,3,4,6,5] [3] []) (tN m.length<|aD (f:=ap) (fun _=>rfl) m 0)<|M1 (.frz 6 []) (OH rt rt (tM m.length 6<|aD (f:=ap) (fun _=>rfl) m 0) rt rt rt ti)<|Mf a
theorem aa5(d:PDeed)(ss:List PSpan)(day:Int)(p:aH)(m:List (Int×PStart))(hc:kP 50 [.ls (ss.map aV),iV day] (.bool true))(h1:dM d.it.for_ []=false)(h2:dM d.it.for_ p=true):kD 49 [aU d,.ls (ss.map aV),.ptr 1 0 0 0,.ptr 0 0 0 0,.ptr 2 0 0 0] (aa [iM day,gF p,qC,da m,gC d]) (.tuple []) (aa [iM day,gF p,qZ 5 0 1,da m,gC d,pT 0 [d]]):=by
  exact fS Tryz.func49 fun a=>Kh 5 h1<|Kh 0 h1<|Kh 0 h1<|Kh 0 h1<|Kh 0 h1<|Kw 0 h1<|Kt 0 h2<|Kt 0 h2<|Kt 0 h2<|Mp hc<|MV h2<|K1 5 (.ren [0,1,2,3,4,6,5] [3] []) (tN m.length<|aD (f:=ap) (fun _=>rfl) m 0)<|M1 (.frz 6 []) (OH rt rt (tM m.length 6<|aD (f:=ap) (fun _=>rfl) m 0) rt rt rt ti)<|Mf a
theorem aa4(d:PDeed)(ss:List PSpan)(day:Int)(p:aH)(m:List (Int×PStart))(ep n:Nat)(out:List PDeed)(hc:kP 50 [.ls (ss.map aV),iV day] (.bool false)):kD 49 [aU d,.ls (ss.map aV),.ptr 1 0 0 0,.ptr 0 0 0 0,.ptr 2 0 0 0] (aa [iM day,gF p,qZ 4 ep n,da m,pT ep out,gC d]) (.tuple []) (aa [iM day,gF p,qZ 4 ep n,da m,pT ep out,gC d]):=by
  exact fS Tryz.func49 fun a=>Kb 5 (dM d.it.for_ (ByteArray.mk #[]).data.toList) (fun b=>Mt b<|Mt b<|Mt b<|Mt b<|MV b<|Kp 2 hc<|K1 1 (.frz 6 []) (OH rt (tR 28 true ep 6<|aX xi out) (tM m.length 6<|aD (f:=ap) (fun _=>rfl) m 0) rt rt rt ti)<|Mf a) fun b=>Kh 0 b<|Kh 0 b<|Kh 0 b<|Kh 0 b<|Kw 0 b<|Kb 0 (dM d.it.for_ p) (fun b=>Kt 0 b<|Kt 0 b<|Mp hc<|MV b<|K1 0 (.frz 6 []) (OH rt (tR 28 true ep 6<|aX xi out) (tM m.length 6<|aD (f:=ap) (fun _=>rfl) m 0) rt rt rt ti)<|Mf a) fun b=>Mh b<|Mh b<|My b<|K1 0 (.frz 6 []) (OH rt (tR 28 true ep 6<|aX xi out) (tM m.length 6<|aD (f:=ap) (fun _=>rfl) m 0) rt rt rt ti)<|Mf a
theorem aa3(d:PDeed)(ss:List PSpan)(day:Int)(p:aH)(m:List (Int×PStart))(ep n:Nat)(out:List PDeed)(h1:dM d.it.for_ []=false)(h2:dM d.it.for_ p=false):kD 49 [aU d,.ls (ss.map aV),.ptr 1 0 0 0,.ptr 0 0 0 0,.ptr 2 0 0 0] (aa [iM day,gF p,qZ 4 ep n,da m,pT ep out,gC d]) (.tuple []) (aa [iM day,gF p,qZ 4 ep n,da m,pT ep out,gC d]):=by
  exact fS Tryz.func49 fun a=>Kh 5 h1<|Kh 0 h1<|Kh 0 h1<|Kh 0 h1<|Kh 0 h1<|Kw 0 h1<|Kh 0 h2<|Mh h2<|Mh h2<|My h2<|K1 0 (.frz 6 []) (OH rt (tR 28 true ep 6<|aX xi out) (tM m.length 6<|aD (f:=ap) (fun _=>rfl) m 0) rt rt rt ti)<|Mf a
theorem aa2(d:PDeed)(ss:List PSpan)(day:Int)(p:aH)(m:List (Int×PStart))(ep n:Nat)(out:List PDeed)(hn:n=out.length)(hn2:n<2^20)(hc:kP 50 [.ls (ss.map aV),iV day] (.bool true))(h1:dM d.it.for_ []=true):kD 49 [aU d,.ls (ss.map aV),.ptr 1 0 0 0,.ptr 0 0 0 0,.ptr 2 0 0 0] (aa [iM day,gF p,qZ 4 ep n,da m,pT ep out,gC d]) (.tuple []) (aa [iM day,gF p,qZ 4 (ep+1) (n+1),da m,pT (ep+1) (out++[d]),gC d]):=by
  exact fS Tryz.func49 fun a=>Kt 5 h1<|Mt h1<|Mt h1<|Mt h1<|Mt h1<|MV h1<|Kp 2 hc<|K1 4 .app (cp (aJ ep) (by(rw[lM];exact hn):n=(out.map aU).length) (by exact eF (m:=2^21) (by omega) (by decide) (by decide):small (n+1) 392=true))<|M1 (.obj 4<|aZ 28 true (ep+1)<|(out++[d]).map aU) (congrArg (aZ 28 true<|ep+1)<|dK (f:=aU) (l:=out) (ws:=[d]))<|K1 0 (.frz 6 []) (OH rt (tR 28 true (ep+1) 6<|aX xi<|out++[d]) (tM m.length 6<|aD (f:=ap) (fun _=>rfl) m 0) rt rt rt ti)<|Mf a
theorem aa1(d:PDeed)(ss:List PSpan)(day:Int)(p:aH)(m:List (Int×PStart))(ep n:Nat)(out:List PDeed)(hn:n=out.length)(hn2:n<2^20)(hc:kP 50 [.ls (ss.map aV),iV day] (.bool true))(h1:dM d.it.for_ []=false)(h2:dM d.it.for_ p=true):kD 49 [aU d,.ls (ss.map aV),.ptr 1 0 0 0,.ptr 0 0 0 0,.ptr 2 0 0 0] (aa [iM day,gF p,qZ 4 ep n,da m,pT ep out,gC d]) (.tuple []) (aa [iM day,gF p,qZ 4 (ep+1) (n+1),da m,pT (ep+1) (out++[d]),gC d]):=by
  exact fS Tryz.func49 fun a=>Kh 5 h1<|Kh 0 h1<|Kh 0 h1<|Kh 0 h1<|Kh 0 h1<|Kw 0 h1<|Kt 0 h2<|Kt 0 h2<|Kt 0 h2<|Mp hc<|MV h2<|K1 3 .app (cp (aJ ep) (by(rw[lM];exact hn):n=(out.map aU).length) (by exact eF (m:=2^21) (by omega) (by decide) (by decide):small (n+1) 392=true))<|M1 (.obj 4<|aZ 28 true (ep+1)<|(out++[d]).map aU) (congrArg (aZ 28 true<|ep+1)<|dK (f:=aU) (l:=out) (ws:=[d]))<|K1 0 (.frz 6 []) (OH rt (tR 28 true (ep+1) 6<|aX xi<|out++[d]) (tM m.length 6<|aD (f:=ap) (fun _=>rfl) m 0) rt rt rt ti)<|Mf a
theorem WD{day:Int}{p:aH}{m:List (Int×PStart)}{ds:List PDeed}{d:PDeed}(h:CM day p m ds d=false):kP 50 [.ls ((du (dU m d.act) d ds).map aV),iV day] (.bool false)\/(dM d.it.for_ []=false/\dM d.it.for_ p=false):=by
  unfold CM Yy at h
  have hz:=mY (dU m d.act) d ds day
  cases q:iD (du (dU m d.act) d ds) day with
  |false=>rw[q]at hz;exact .inl hz
  |true=>rw[q,Bool.and_true,Cx]at h;exact .inr h
theorem QH{day:Int}{p:aH}{m:List (Int×PStart)}{ds:List PDeed}{d:PDeed}(h:CM day p m ds d=true):kP 50 [.ls ((du (dU m d.act) d ds).map aV),iV day] (.bool true)/\(dM d.it.for_ []=true\/(dM d.it.for_ []=false/\dM d.it.for_ p=true)):=by
  unfold CM Yy at h
  obtain⟨h1,h2⟩:=oK.1 h
  have hz:=mY (dU m d.act) d ds day
  rw[h2]at hz
  refine⟨hz,?_⟩
  cases q:dM d.it.for_ []with
  |true=>exact .inl rfl
  |false=>rw[q,Bool.false_or]at h1;exact .inr ⟨rfl,h1⟩
theorem Zu(day:Int)(p:aH)(m:List (Int×PStart))(ds:List PDeed)(d:PDeed)(hb:CM day p m ds d=false):kD 49 [aU d,.ls ((du (dU m d.act) d ds).map aV),.ptr 1 0 0 0,.ptr 0 0 0 0,.ptr 2 0 0 0] (aa [iM day,gF p,qC,da m,gC d]) (.tuple []) (aa [iM day,gF p,qC,da m,gC d]):=by
  rcases WD hb with h|⟨h1,h2⟩
  · exact aa8 d _ day p m h
  · exact aa7 d _ day p m h1 h2
theorem abc(day:Int)(p:aH)(m:List (Int×PStart))(ds:List PDeed)(d:PDeed)(hb:By (CM day p m ds d) false):kD 49 [aU d,.ls ((du (dU m d.act) d ds).map aV),.ptr 1 0 0 0,.ptr 0 0 0 0,.ptr 2 0 0 0] (aa [iM day,gF p,qC,da m,gC d]) (.tuple []) (aa [iM day,gF p,qC,da m,gC d]):=Zu day p m ds d hb
theorem abb(day:Int)(p:aH)(m:List (Int×PStart))(ds:List PDeed)(d:PDeed)(hb:By (CM day p m ds d) true):kD 49 [aU d,.ls ((du (dU m d.act) d ds).map aV),.ptr 1 0 0 0,.ptr 0 0 0 0,.ptr 2 0 0 0] (aa [iM day,gF p,qC,da m,gC d]) (.tuple []) (aa [iM day,gF p,qZ 5 0 1,da m,gC d,pT 0 [d]]):=by
  obtain⟨h,h1|⟨h1,h2⟩⟩:=QH hb
  · exact aa6 d _ day p m h h1
  · exact aa5 d _ day p m h h1 h2
theorem aba(day:Int)(p:aH)(m:List (Int×PStart))(ds:List PDeed)(d:PDeed)(ep n:Nat)(out:List PDeed)(hb:By (CM day p m ds d) false):kD 49 [aU d,.ls ((du (dU m d.act) d ds).map aV),.ptr 1 0 0 0,.ptr 0 0 0 0,.ptr 2 0 0 0] (aa [iM day,gF p,qZ 4 ep n,da m,pT ep out,gC d]) (.tuple []) (aa [iM day,gF p,qZ 4 ep n,da m,pT ep out,gC d]):=by
  rcases WD hb with h|⟨h1,h2⟩
  · exact aa4 d _ day p m ep n out h
  · exact aa3 d _ day p m ep n out h1 h2
theorem aa9(day:Int)(p:aH)(m:List (Int×PStart))(ds:List PDeed)(d:PDeed)(ep n:Nat)(out:List PDeed)(hb:By (CM day p m ds d) true)(hn:n=out.length)(hn2:n<2^20):kD 49 [aU d,.ls ((du (dU m d.act) d ds).map aV),.ptr 1 0 0 0,.ptr 0 0 0 0,.ptr 2 0 0 0] (aa [iM day,gF p,qZ 4 ep n,da m,pT ep out,gC d]) (.tuple []) (aa [iM day,gF p,qZ 4 (ep+1) (n+1),da m,pT (ep+1) (out++[d]),gC d]):=by
  obtain⟨h,h1|⟨h1,h2⟩⟩:=QH hb
  · exact aa2 d _ day p m ep n out hn hn2 h h1
  · exact aa1 d _ day p m ep n out hn hn2 h h1 h2
theorem QM{day:Int}{p:aH}{m:List (Int×PStart)}{ds r:List PDeed}{d:PDeed}(h:f9 d.it.kind=false):sb day p m ds (d::r)=sb day p m ds r:=by simp only[sb,List.filter_cons,h,Bool.false_and];rfl
theorem QL{day:Int}{p:aH}{m:List (Int×PStart)}{ds r:List PDeed}{d:PDeed}(h:CM day p m ds d=false):sb day p m ds (d::r)=sb day p m ds r:=by simp only[sb,List.filter_cons,h,yI];rfl
theorem QI{day:Int}{p:aH}{m:List (Int×PStart)}{ds r:List PDeed}{d:PDeed}(h:f9 d.it.kind=true)(h2:CM day p m ds d=true):sb day p m ds (d::r)=d::sb day p m ds r:=by simp only[sb,List.filter_cons,h,h2];rfl
structure OnA(day:Int)(p:aH)(m:List (Int×PStart))(ds r:List PDeed):Prop where
  f:sb day p m ds ds=sb day p m ds r
structure OnR(day:Int)(p:aH)(m:List (Int×PStart))(ds r:List PDeed)(ep n:Nat)(out:List PDeed):Prop where
  len:n=out.length
  ep:ep+1=out.length
  small:out.length+r.length<=ds.length
  f:sb day p m ds ds=out++sb day p m ds r
theorem OnA.no{day:Int}{p:aH}{m:List (Int×PStart)}{ds r:List PDeed}{d:PDeed}(h:OnA day p m ds (d::r))(ha:f9 d.it.kind=false):OnA day p m ds r:=⟨by rw[h.f,QM ha]⟩
theorem OnA.nil{day:Int}{p:aH}{m:List (Int×PStart)}{ds r:List PDeed}{d:PDeed}(h:OnA day p m ds (d::r))(hb:CM day p m ds d=false):OnA day p m ds r:=⟨by rw[h.f,QL hb]⟩
theorem OnA.new{day:Int}{p:aH}{m:List (Int×PStart)}{ds r:List PDeed}{d:PDeed}{n:Nat}(h:OnA day p m ds (d::r))(hl:(d::r).length<=ds.length)(ha:f9 d.it.kind=true)(hb:CM day p m ds d=true)(hn:n=1):OnR day p m ds r 0 n [d]:=⟨hn,rfl,by simp only[lC,lN]at *;omega,by rw[h.f,QI ha hb];rfl⟩
theorem OnR.no{day:Int}{p:aH}{m:List (Int×PStart)}{ds r:List PDeed}{d:PDeed}{ep n:Nat}{out:List PDeed}(h:OnR day p m ds (d::r) ep n out)(ha:f9 d.it.kind=false):OnR day p m ds r ep n out:=⟨h.len,h.ep,by have:=h.small;simp only[lC]at this;omega,by rw[h.f,QM ha]⟩
theorem OnR.nil{day:Int}{p:aH}{m:List (Int×PStart)}{ds r:List PDeed}{d:PDeed}{ep n:Nat}{out:List PDeed}(h:OnR day p m ds (d::r) ep n out)(hb:CM day p m ds d=false):OnR day p m ds r ep n out:=⟨h.len,h.ep,by have:=h.small;simp only[lC]at this;omega,by rw[h.f,QL hb]⟩
theorem OnR.new{day:Int}{p:aH}{m:List (Int×PStart)}{ds r:List PDeed}{d:PDeed}{ep n k:Nat}{out:List PDeed}(h:OnR day p m ds (d::r) ep n out)(ha:f9 d.it.kind=true)(hb:CM day p m ds d=true)(hk:k=n+1):OnR day p m ds r (ep+1) k (out++[d]):=by
  have:=h.len;have:=h.ep;have:=h.small
  refine⟨?_,?_,?_,by rw[h.f,QI ha hb,jy];rfl⟩<;>simp only[lA,lC,lN]at * <;>omega
theorem OnR.done{day:Int}{p:aH}{m:List (Int×PStart)}{ds:List PDeed}{ep n:Nat}{out:List PDeed}(h:OnR day p m ds [] ep n out):ep=(sb day p m ds ds).length -1/\n=(sb day p m ds ds).length/\out=sb day p m ds ds:=by
  have e:sb day p m ds ds=out:=by rw[h.f];exact ef _
  have:=h.len;have:=h.ep
  rw[e];exact⟨by omega,by omega,rfl⟩
theorem Xp{α:Type}{l r:List α}{j:Nat}{a:α}(h:l.drop j=a::r):(a::r).length<=l.length:=by rw[<-h,yD];omega
theorem WE{day:Int}{p:aH}{m:List (Int×PStart)}{ds r:List PDeed}{d:PDeed}(h:sb day p m ds (d::r)=[])(ha:f9 d.it.kind=true):CM day p m ds d=false:=by
  cases q:CM day p m ds d with
  |false=>rfl
  |true=>rw[QI ha q]at h;cases h
theorem YL(gs:List PGaz)(L:List PAct)(ds:List PDeed)(day:Int)(p:aH)(hL:L.length<10000)(hd:ds.length<100000)(ha:kP 59 [.ls (gs.map ae)] (.ls (L.map av)))(hi:kP 80 [.ls (gs.map ae)] (.ls (ds.map aU)))(hE:sb day p (yJ L []) ds ds=[]):
    kD 48 [.ls (gs.map ae),.func (.func 49) [] [.ptr 1 0 0 0,.ptr 0 0 0 0,.ptr 2 0 0 0]] (aa [iM day,gF p,qC]) (.tuple []) (aa [iM day,gF p,qC]):=by
  have hlk:=Aj
  have hup:=Ce
  let q1:=[iV day];exact fS Tryz.func48 fun a=>Kp 2 ha<|Kl 0 13 (ln av L)<|Mg 0<|Pm av L ([]:List (Int×PStart)) [0,1,4,12,13,14] (fun a _ b=>([aW<|gs.map ae,bj (bx 49) [] [bX 1 0 0 0,bX 0 0 0 0,bX 2 0 0 0],AV.map 3,aW<|L.map av,nV L.length,nV a],[aZ 1 false 0 [iV day],aZ 1 false 0 [aj p],aZ 1 false 0 [ab],AObj.map (bH ap b 0) b.length])) (fun a b=>yJ L []=yJ a b) (by rfl) (fun _ _ b _ _ _ c d=>Kh 0 c<|Kp 0 hi<|Kl 2 27 (ln aU ds)<|Mg 0<|XK (0:Nat) ds () [1,4,7,26,27,28] (fun a _ _=>([bj (bx 49) [] [bX 1 0 0 0,bX 0 0 0 0,bX 2 0 0 0],AV.map 3,aW<|ds.map aU,aW<|ds.map aU,nV ds.length,nV a],[aZ 1 false 0 [iV day],aZ 1 false 0 [aj p],aZ 1 false 0 [ab],AObj.map (bH ap b 0) b.length])) (fun a c _=>(ds).drop a=c/\sb day p b ds c=[]) (fun _ a _=>a.length) (et rfl<|by(rw[<-show yJ L []=b from d];exact hE)) fun c d e f g=>Mc d (fun c=>have d:=gH f.1 c;have:=jA (J:=fun a _=>sb day p b ds a=[]) (a:=e) c f.2;Kh 0 d<|M1 (.frz 3 []) (js rt rt rt ti)<|Mf a) fun a d h=>let i:=[ak (dLx a)];have j:=gI f.1 h;have:=aA j;have k:=gG (enc:=aU) f.1 h;have e:=c8 (J:=fun a _=>sb day p b ds a=[]) (a:=e) h f.2;Kt 0 j<|Mx k<|Kp 5 (ng a.it.kind)<|Mb (f9 a.it.kind) (fun _=>K1 4 (.look<|ak [iV (dU b a.act).kind,iV (dU b a.act).day,aj (dU b a.act).event]) (hlk b a.act)<|Kp 1 (nX (dU b a.act) a ds<|by(omega))<|M3 (.efx true (cK [])<|aa [aZ 1 false 0 q1,aZ 1 false 0 [aj p],aZ 1 false 0 [ab],AObj.map (bH ap b 0) b.length,aZ 28 false 0 i]) (yg rt (tM b.length 5<|aD (f:=ap) (fun _=>rfl) b 0) rt rt rt ti) (yg (aJ<|some<|aZ 28 false 0 i) (aJ<|some<|AObj.map (bH ap b 0) b.length) (aJ<|some<|aZ 1 false 0 [ab]) (aJ<|some<|aZ 1 false 0 [aj p]) (aJ<|some<|aZ 1 false 0 q1) ti) (Zu day p b ds a<|by exact WE e (by assumption))<|Kl 0 46 (dt c)<|K1 0 (.frz 4 [1,4,7,26,27,28]) (EM (tM b.length 4<|aD (f:=ap) (fun _=>rfl) b 0) rt rt rt ti)<|Mf<|g (c+1) d () (et (cZ f.1 h)<|by(have z:=e;rw[QL (WE z (by assumption))]at z;exact z))<|gY h) fun _=>Kl 0 46 (dt c)<|K1 0 (.frz 4 [1,4,7,26,27,28]) (EM (tM b.length 4<|aD (f:=ap) (fun _=>rfl) b 0) rt rt rt ti)<|Mf<|g (c+1) d () (et (cZ f.1 h)<|by(have z:=e;rw[QM (by assumption)]at z;exact z))<|gY h) fun a _ b _ _ c d e _ f _ g h=>Kt 0 f<|Mx g<|K1 7 (.upd (bH ap (jc c.number c.start b) 0) (jc c.number c.start b).length) (hup b c)<|Kl 0 23 (dt a)<|K1 0 (.frz 4 [0,1,4,12,13,14]) (EM (tM (jc c.number c.start b).length 4<|aD (f:=ap) (fun _=>rfl) (jc c.number c.start b) 0) rt rt rt ti)<|Mf<|e (jc c.number c.start b)<|by exact h
def Ig(gs:List PGaz)(L:List PAct)(day:Int)(p:aH)(x0:Nat×List PAct×List (Int×PStart)):Prop:=(L).drop x0.1=x0.2.1/\yJ L []=yJ x0.2.1 x0.2.2
noncomputable def xr(gs:List PGaz)(L:List PAct)(day:Int)(p:aH)(x0:Nat×List PAct×List (Int×PStart)):List AV×List AObj:=([AV.ls (gs.map ae),AV.func (Fn.func 49) [] [AV.ptr 1 0 0 0,AV.ptr 0 0 0 0,AV.ptr 2 0 0 0],AV.map 3,AV.ls (L.map av),nV L.length,nV x0.1],[AObj.row 1 false 0 [iV day],AObj.row 1 false 0 [AV.str p],AObj.row 1 false 0 [AV.nils],AObj.map (bH ap x0.2.2 0) x0.2.2.length])
def Ie(ds:List PDeed)(day:Int)(p:aH)(x0:Nat×List PAct×List (Int×PStart))(x1:Nat×List PDeed×Unit):Prop:=(ds).drop x1.1=x1.2.1/\OnA day p x0.2.2 ds x1.2.1
noncomputable def xp(ds:List PDeed)(day:Int)(p:aH)(x0:Nat×List PAct×List (Int×PStart))(x1:Nat×List PDeed×Unit):List AV×List AObj:=([AV.func (Fn.func 49) [] [AV.ptr 1 0 0 0,AV.ptr 0 0 0 0,AV.ptr 2 0 0 0],AV.map 3,AV.ls (ds.map aU),AV.ls (ds.map aU),nV ds.length,nV x1.1],[AObj.row 1 false 0 [iV day],AObj.row 1 false 0 [AV.str p],AObj.row 1 false 0 [AV.nils],AObj.map (bH ap x0.2.2 0) x0.2.2.length])
def Ic(ds:List PDeed)(day:Int)(p:aH)(x0:Nat×List PAct×List (Int×PStart))(x1:Nat×List PDeed×Nat×Nat×List PDeed):Prop:=(ds).drop x1.1=x1.2.1/\OnR day p x0.2.2 ds x1.2.1 x1.2.2.1 x1.2.2.2.1 x1.2.2.2.2
noncomputable def Ib(ds:List PDeed)(day:Int)(p:aH)(x0:Nat×List PAct×List (Int×PStart))(x1:Nat×List PDeed×Nat×Nat×List PDeed):List AV×List AObj:=([AV.func (Fn.func 49) [] [AV.ptr 1 0 0 0,AV.ptr 0 0 0 0,AV.ptr 2 0 0 0],AV.map 3,AV.ls (ds.map aU),AV.ls (ds.map aU),nV ds.length,nV x1.1],[AObj.row 1 false 0 [iV day],AObj.row 1 false 0 [AV.str p],AObj.row 1 false 0 [AV.slice 4 x1.2.2.1 0 x1.2.2.2.1 none],AObj.map (bH ap x0.2.2 0) x0.2.2.length,AObj.row 28 true x1.2.2.1 (x1.2.2.2.2.map aU)])
theorem YI(gs:List PGaz)(L:List PAct)(ds:List PDeed)(day:Int)(p:aH)(hL:L.length<10000)(hd:ds.length<100000)(ha:kP 59 [.ls (gs.map ae)] (.ls (L.map av)))(hi:kP 80 [.ls (gs.map ae)] (.ls (ds.map aU)))(hE:sb day p (yJ L []) ds ds≠[]):
    kD 48 [.ls (gs.map ae),.func (.func 49) [] [.ptr 1 0 0 0,.ptr 0 0 0 0,.ptr 2 0 0 0]] (aa [iM day,gF p,qC]) (.tuple []) (aa [iM day,gF p,qZ 3 ((sb day p (yJ L []) ds ds).length -1) (sb day p (yJ L []) ds ds).length,pT ((sb day p (yJ L []) ds ds).length -1) (sb day p (yJ L []) ds ds)]):=by
  have hlk:=Aj
  have hup:=Ce
  let q5:=[iV day];let q8:=cK [];let q10:=some (aZ 1 false 0 [aj p]);let q11:=some (aZ 1 false 0 q5);exact PN Tryz.func48<|Kp 2 ha<|Kl 0 13 (ln av L)<|Mg 0<|ML (Nat×List PAct×List (Int×PStart)) [0,1,4,12,13,14] (xr gs L day p) (Ig gs L day p) (fun a=>a.2.1.length) (0,L,[]) (aJ<|xr gs L day p (0,L,[])) (et (rfl:List.drop 0 (L)=L) (by rfl:(yJ L []=yJ L []))) fun a b c=>let d:=some<|AObj.map (bH ap a.2.2 0) a.2.2.length;Mi (fun a b=>yJ L []=yJ a b) av b (fun _ b c=>Kh 0 b<|Kp 0 hi<|Kl 2 27 (ln aU ds)<|Mg 0<|MM (Nat×List PDeed×Unit) (Nat×List PDeed×Nat×Nat×List PDeed) [1,4,7,26,27,28] (xp ds day p a) (Ib ds day p a) (Ie ds day p a) (Ic ds day p a) (fun a=>a.2.1.length) (fun a=>a.2.1.length) (.inl (0,ds,())) (aJ<|xp ds day p a (0,ds,())) (et (rfl:List.drop 0 (ds)=ds) (by(exact⟨rfl⟩):(OnA day p a.2.2 ds ds))) (fun b e f=>Mc b.2.1 (fun d=>have f:=gH e.1 d;have b:=jA (J:=fun b _=>OnA day p a.2.2 ds b) (a:=b.2.2) d e.2;Kh 0 f<|Mw .abs (by exact hE (by rw[show yJ L []=a.2.2 from c];exact b.f):False)) fun c g h=>let i:=[ak (dLx c)];let j:=ak [iV (dU a.2.2 c.act).kind,iV (dU a.2.2 c.act).day,aj (dU a.2.2 c.act).event];have k:=gI e.1 h;have:=aA k;have l:=gG (enc:=aU) e.1 h;have m:=c8 (J:=fun b _=>OnA day p a.2.2 ds b) (a:=b.2.2) h e.2;Kt 0 k<|Mx l<|Kp 5 (ng c.it.kind)<|Mb (f9 c.it.kind) (fun _=>Ms (CM day p a.2.2 ds c) (fun d=>K1 4 (.look j) (hlk a.2.2 c.act)<|Kp 1 (nX (dU a.2.2 c.act) c ds<|by(omega))<|M3 (.efx false q8<|aa [aZ 1 false 0 q5,aZ 1 false 0 [aj p],aZ 1 false 0 [aI 5 0 0 1 none],AObj.map (bH ap a.2.2 0) a.2.2.length,aZ 28 false 0 i,aZ 28 true 0 i]) (yg rt (tM a.2.2.length 5<|aD (f:=ap) (fun _=>rfl) a.2.2 0) rt rt rt ti) ti (abb day p a.2.2 ds c d)<|Kl 0 46 (dt b.1)<|K1 0 (.ren [0,1,2,3,5,4] [3] [1,4,7,26,27,28]) (tN a.2.2.length<|aD (f:=ap) (fun _=>rfl) a.2.2 0)<|M1 (.frz 5 [1,4,7,26,27,28]) (yg rt (tM a.2.2.length 5<|aD (f:=ap) (fun _=>rfl) a.2.2 0) rt rt rt ti)<|Mf<|f (.inr (b.1+1,g,(0,1,[c]))) (et (cZ e.1 h) (by exact m.new (Xp (e.1.trans h)) (by assumption) (by assumption) rfl:(OnR day p a.2.2 ds g (0:Nat) (1:Nat) [c])))<|gY h) fun k=>K1 4 (.look j) (hlk a.2.2 c.act)<|Kp 1 (nX (dU a.2.2 c.act) c ds<|by(omega))<|M3 (.efx true q8<|aa [aZ 1 false 0 q5,aZ 1 false 0 [aj p],aZ 1 false 0 [ab],AObj.map (bH ap a.2.2 0) a.2.2.length,aZ 28 false 0 i]) (yg rt (tM a.2.2.length 5<|aD (f:=ap) (fun _=>rfl) a.2.2 0) rt rt rt ti) (yg (aJ<|some<|aZ 28 false 0 i) (aJ d) (aJ<|some<|aZ 1 false 0 [ab]) (aJ q10) (aJ q11) ti) (abc day p a.2.2 ds c k)<|Kl 0 46 (dt b.1)<|K1 0 (.frz 4 [1,4,7,26,27,28]) (EM (tM a.2.2.length 4<|aD (f:=ap) (fun _=>rfl) a.2.2 0) rt rt rt ti)<|Mf<|f (.inl (b.1+1,g,())) (et (cZ e.1 h) (by exact m.nil (by assumption):(OnA day p a.2.2 ds g)))<|gY h) fun _=>Kl 0 46 (dt b.1)<|K1 0 (.frz 4 [1,4,7,26,27,28]) (EM (tM a.2.2.length 4<|aD (f:=ap) (fun _=>rfl) a.2.2 0) rt rt rt ti)<|Mf<|f (.inl (b.1+1,g,())) (et (cZ e.1 h) (by exact m.no (by assumption):(OnA day p a.2.2 ds g)))<|gY h) fun b e f=>let g:=[aI 4 b.2.2.1 0 b.2.2.2.1 none];let h:=List.map aU b.2.2.2.2;Mc b.2.1 (fun d=>have f:=gH e.1 d;have d:=jA (J:=fun b c=>OnR day p a.2.2 ds b c.1 c.2.1 c.2.2) (a:=b.2.2) d e.2;Kh 0 f<|M2 (.ren [0,1,2,4,3] [4,3] []) (tS 28 true b.2.2.1<|aX xi b.2.2.2.2) (tN a.2.2.length<|aD (f:=ap) (fun _=>rfl) a.2.2 0)<|M1 (.frz 4 []) (EM (tR 28 true b.2.2.1 4<|aX xi b.2.2.2.2) rt rt rt ti)<|Mf<|et (aJ q8) (by(have q:=d.done;rw[show yJ L []=a.2.2 from c,q.1,q.2.1,q.2.2]):(aa [AObj.row 1 false 0 [iV day],AObj.row 1 false 0 [AV.str p],AObj.row 1 false 0 [AV.slice 3 b.2.2.1 0 b.2.2.2.1 none],AObj.row 28 true b.2.2.1 (b.2.2.2.2.map aU)])=(aa [iM day,gF p,qZ 3 ((sb day p (yJ L []) ds ds).length -1) (sb day p (yJ L []) ds ds).length,pT ((sb day p (yJ L []) ds ds).length -1) (sb day p (yJ L []) ds ds)]))) fun c i j=>let k:=[ak (dLx c)];let l:=ak [iV (dU a.2.2 c.act).kind,iV (dU a.2.2 c.act).day,aj (dU a.2.2 c.act).event];have m:=gI e.1 j;have:=aA m;have n:=gG (enc:=aU) e.1 j;have o:=c8 (J:=fun b c=>OnR day p a.2.2 ds b c.1 c.2.1 c.2.2) (a:=b.2.2) j e.2;Kt 0 m<|Mx n<|Kp 5 (ng c.it.kind)<|Mb (f9 c.it.kind) (fun _=>Ms (CM day p a.2.2 ds c) (fun d=>K1 4 (.look l) (hlk a.2.2 c.act)<|Kp 1 (nX (dU a.2.2 c.act) c ds<|by(omega))<|M3 (.efx false q8<|aa [aZ 1 false 0 q5,aZ 1 false 0 [aj p],aZ 1 false 0 [aI 4 (b.2.2.1+1) 0 (b.2.2.2.1+1) none],AObj.map (bH ap a.2.2 0) a.2.2.length,aZ 28 true (b.2.2.1+1)<|(b.2.2.2.2++[c]).map aU,aZ 28 false 0 k]) (OH rt (tR 28 true b.2.2.1 6<|aX xi b.2.2.2.2) (tM a.2.2.length 6<|aD (f:=ap) (fun _=>rfl) a.2.2 0) rt rt rt ti) ti (aa9 day p a.2.2 ds c b.2.2.1 b.2.2.2.1 b.2.2.2.2 d (by exact o.len)<|by(have z:=o.small;have z2:=o.len;simp only[lC]at z;omega))<|Kl 0 46 (dt b.1)<|K1 0 (.frz 5 [1,4,7,26,27,28]) (yg (tR 28 true (b.2.2.1+1) 5<|aX xi<|b.2.2.2.2++[c]) (tM a.2.2.length 5<|aD (f:=ap) (fun _=>rfl) a.2.2 0) rt rt rt ti)<|Mf<|f (.inr (b.1+1,i,(b.2.2.1+1,b.2.2.2.1+1,b.2.2.2.2++[c]))) (et (cZ e.1 j) (by exact o.new (by assumption) (by assumption) rfl:(OnR day p a.2.2 ds i (b.2.2.1+1) (b.2.2.2.1+1) (b.2.2.2.2++[c]))))<|gY j) fun m=>K1 4 (.look l) (hlk a.2.2 c.act)<|Kp 1 (nX (dU a.2.2 c.act) c ds<|by(omega))<|M3 (.efx true q8<|aa [aZ 1 false 0 q5,aZ 1 false 0 [aj p],aZ 1 false 0 g,AObj.map (bH ap a.2.2 0) a.2.2.length,aZ 28 true b.2.2.1 h,aZ 28 false 0 k]) (OH rt (tR 28 true b.2.2.1 6<|aX xi b.2.2.2.2) (tM a.2.2.length 6<|aD (f:=ap) (fun _=>rfl) a.2.2 0) rt rt rt ti) (OH (aJ<|some<|aZ 28 false 0 k) (aJ<|some<|aZ 28 true b.2.2.1 h) (aJ d) (aJ<|some<|aZ 1 false 0 g) (aJ q10) (aJ q11) ti) (aba day p a.2.2 ds c b.2.2.1 b.2.2.2.1 b.2.2.2.2 m)<|Kl 0 46 (dt b.1)<|K1 0 (.frz 5 [1,4,7,26,27,28]) (yg (tR 28 true b.2.2.1 5<|aX xi b.2.2.2.2) (tM a.2.2.length 5<|aD (f:=ap) (fun _=>rfl) a.2.2 0) rt rt rt ti)<|Mf<|f (.inr (b.1+1,i,(b.2.2.1,b.2.2.2.1,b.2.2.2.2))) (et (cZ e.1 j) (by exact o.nil (by assumption):(OnR day p a.2.2 ds i b.2.2.1 b.2.2.2.1 b.2.2.2.2)))<|gY j) fun _=>Kl 0 46 (dt b.1)<|K1 0 (.frz 5 [1,4,7,26,27,28]) (yg (tR 28 true b.2.2.1 5<|aX xi b.2.2.2.2) (tM a.2.2.length 5<|aD (f:=ap) (fun _=>rfl) a.2.2 0) rt rt rt ti)<|Mf<|f (.inr (b.1+1,i,(b.2.2.1,b.2.2.2.1,b.2.2.2.2))) (et (cZ e.1 j) (by exact o.no (by assumption):(OnR day p a.2.2 ds i b.2.2.1 b.2.2.2.1 b.2.2.2.2)))<|gY j) fun d e f g _ h i=>Kt 0 g<|Mx h<|K1 7 (.upd (bH ap (jc d.number d.start a.2.2) 0) (jc d.number d.start a.2.2).length) (hup a.2.2 d)<|Kl 0 23 (dt a.1)<|K1 0 (.frz 4 [0,1,4,12,13,14]) (EM (tM (jc d.number d.start a.2.2).length 4<|aD (f:=ap) (fun _=>rfl) (jc d.number d.start a.2.2) 0) rt rt rt ti)<|Mf<|c (a.1+1,e,jc d.number d.start a.2.2) (et (cZ b.1 f) (by exact i:(yJ L []=yJ e (jc d.number d.start a.2.2))))<|gY f
noncomputable def onL(day:Int)(p:aH)(L:List PAct)(ds:List PDeed):List PDeed:=sb day p (yJ L []) ds ds
theorem Zs(gs:List PGaz)(day:Int)(p:aH)(hc:kD 48 [.ls (gs.map ae),.func (.func 49) [] [.ptr 1 0 0 0,.ptr 0 0 0 0,.ptr 2 0 0 0]] (aa [iM day,gF p,qC]) (.tuple []) (aa [iM day,gF p,qC])):kP 21 [iV day,.str p,.ls (gs.map ae)] (.ls (([]:List PDeed).map aU)):=by
  exact bp Tryz.func21<|Ke 5 hc<|Kf 1 bD
theorem Zr(gs:List PGaz)(day:Int)(p:aH)(X:List PDeed)(k:Nat)(hz:0<X.length)(hb:X.length<2^40)(hc:kD 48 [.ls (gs.map ae),.func (.func 49) [] [.ptr 1 0 0 0,.ptr 0 0 0 0,.ptr 2 0 0 0]] (aa [iM day,gF p,qC]) (.tuple []) (aa [iM day,gF p,qZ 3 k X.length,pT k X])):kP 21 [iV day,.str p,.ls (gs.map ae)] (.ls (X.map aU)):=by
  let q:=List.map aU X;exact bp Tryz.func21<|Ke 5 hc<|Mg 1<|M2 (.fsl 0 [] 6 q) ti (cp (aJ k) (tA aU X X.length rfl)<|aX xi X)<|Ml 6 (eP q false<|aX xi X)<|Mf<|bw<|aW q
theorem Zt(gs:List PGaz)(L:List PAct)(ds:List PDeed)(day:Int)(p:aH)(hL:L.length<10000)(hd:ds.length<100000)(ha:kP 59 [.ls (gs.map ae)] (.ls (L.map av)))(hi:kP 80 [.ls (gs.map ae)] (.ls (ds.map aU))):kP 21 [iV day,.str p,.ls (gs.map ae)] (.ls ((onL day p L ds).map aU)):=by
  by_cases hE:onL day p L ds=[]
  · rw[hE];exact Zs gs day p (YL gs L ds day p hL hd ha hi hE)
  · have hl:(onL day p L ds).length<=ds.length:=List.length_filter_le ..
    exact Zr gs day p _ _ (qU.2 hE) (by omega) (YI gs L ds day p hL hd ha hi hE)
def jv:TUnit:=⟨0,0,0,0,[],[],[],[]⟩
theorem E0:OkB jv:=⟨by decide,by decide,fun x hx=>by
  have e:x=jv:=by simpa[jv,aT,cA]using hx
  subst e;exact⟨bA _,bA _⟩⟩
theorem ZQ(X:List PDeed)(hl:X.length<2^30)(ho:∀d,d∈X->rh d.it):kP 70 [zU,.ls (X.map aU)] (.tuple [eU (bR jv X),.ls ((eJ jv X).map dE)]):=
  (TV jv X E0 hl ho).args (.cons (we _ _ (by kernel_rfl)).1 (.cons (Le.refl _) .nil))
theorem IJ(X:List PDeed)(hl:X.length<2^30)(ho:∀d,d∈X->rh d.it):kP 38 [.ls (X.map aU)] (.tuple [eU (bR jv X),.ls ((eJ jv X).map dE)]):=by
  have h:=ZQ X hl ho
  exact bp Tryz.func38<|Kp 3 h<|Kf 3<|bw<|cK [ak [iV (bR jv X).act,iV (bR jv X).item,iV (bR jv X).n,iV (bR jv X).kind,aj (bR jv X).label,aW<|List.map aQ (bR jv X).head,aW<|List.map aQ (bR jv X).words,aW<|List.map aY (bR jv X).kids],aW<|(eJ jv X).map dE]
theorem E5(gs:List PGaz)(day:Int)(p:aH)(X:List PDeed)(hon:kP 21 [iV day,.str p,.ls (gs.map ae)] (.ls (X.map aU))):kP 37 [iV day,.str p,.ls (gs.map ae)] (.ls (X.map aU)):=by
  exact bp Tryz.func37<|Kp 3 hon<|Kf 0<|bw<|aW<|X.map aU
theorem S3(gs:List PGaz)(day:Int)(p:aH)(X:List PDeed)(hl:X.length<2^30)(ho:∀d,d∈X->rh d.it)(hon:kP 21 [iV day,.str p,.ls (gs.map ae)] (.ls (X.map aU))):kP 16 [iV day,.str p,.ls (gs.map ae)] (eU (bR jv X)):=by
  have h1:=E5 gs day p X hon
  have h2:=IJ X hl ho
  exact bp Tryz.func16<|Kp 3 h1<|Mp h2<|Kf 7<|bw<|ak [iV (bR jv X).act,iV (bR jv X).item,iV (bR jv X).n,iV (bR jv X).kind,aj (bR jv X).label,aW<|List.map aQ (bR jv X).head,aW<|List.map aQ (bR jv X).words,aW<|List.map aY (bR jv X).kids]
theorem S2(gs:List PGaz)(day:Int)(p:aH)(X:List PDeed)(hl:X.length<2^30)(ho:∀d,d∈X->rh d.it)(hon:kP 21 [iV day,.str p,.ls (gs.map ae)] (.ls (X.map aU))):kP 17 [iV day,.str p,.ls (gs.map ae)] (.ls ((eJ jv X).map dE)):=by
  have h1:=E5 gs day p X hon
  have h2:=IJ X hl ho
  exact bp Tryz.func17<|Kp 3 h1<|Mp h2<|Kf 7<|bw<|aW<|(eJ jv X).map dE
structure OkG(gs:List PGaz):Prop where
  fit:pM gs
  len:gs.length<=9
  acts:∀g,g∈gs->g.acts.length<=8
  items:∀g,g∈gs->∀a,a∈g.acts->a.items.length<=24/\∀x,x∈a.items->nK x=true
theorem HE{most:Int}:∀(l:List PAct)(n m:Int),most=24->0<=n->mj most l n=some m->0<=m/\∀a,a∈l->a.items.length<=24/\∀x,x∈a.items->nK x=true
  |[],n,m,_,hn,h=>by simp only[mj,ve]at h;exact⟨h▸hn,fun a ha=>by cases ha⟩
  | b::r,n,m,hm,hn,h=>by
    unfold mj at h
    cases hb:Bo most n b with
    |true=>rw[hb]at h;cases h
    | false=>
      rw[hb]at h
      unfold Bo at hb
      simp only[Cx]at hb
      obtain⟨z1,_,_,z2⟩:=hb
      have z1:=aF z1
      obtain⟨q1,q2⟩:=HE r (n+Int.ofNat b.items.length) m hm (by simp only[oN]at *;omega) h
      refine⟨q1,fun a ha=>?_⟩
      rcases dO.1 ha with rfl|ha
      · refine⟨by simp only[oN]at *;omega,fun x hx=>?_⟩
        have z3:=qA z2
        exact mw.1 z3 x hx
      · exact q2 a ha
theorem MS:∀(l:List PGaz)(n:Int),0<=n->uI 24 l n=true->∀g,g∈l->g.acts.length<=8/\∀a,a∈g.acts->a.items.length<=24/\∀x,x∈a.items->nK x=true
  |[],_,_,_,g,hg=>by cases hg
  | x::r,n,hn,h,g,hg=>by
    unfold uI at h
    cases hb:wK x with
    |true=>rw[hb]at h;cases h
    | false=>
      rw[hb]at h
      cases ha:mj 24 x.acts n with
      |none=>rw[ha]at h;cases h
      | some m=>
        rw[ha]at h
        obtain⟨q1,q2⟩:=HE x.acts n m rfl hn ha
        rcases dO.1 hg with rfl|hg
        · unfold wK at hb
          have:=aF (Cx.1 hb).1
          exact⟨by simp only[oN]at *;omega,q2⟩
        · exact MS r m q1 h g hg
theorem XH{gs:List PGaz}{p:aH}(hf:pM gs)(h:OB gs p=true):OkG gs/\gs.length<=8:=by
  unfold OB at h
  have h1:=(oK.1 h).1
  unfold OC at h1
  cases hb:aB 8 (Int.ofNat gs.length)with
  |true=>rw[hb]at h1;cases h1
  | false=>
    rw[hb]at h1
    have:=aF hb
    have hl:gs.length<=8:=by simp only[oN]at *;omega
    have q:=MS gs 0 (by omega) h1
    exact⟨⟨hf,by omega,fun g hg=>(q g hg).1,fun g hg=>(q g hg).2⟩,hl⟩
theorem Cl:∀(ys out:List PAct),(ys.foldl ja out).length<=out.length+ys.length
  |[],out=>af _
  | a::r,out=>by
    have:=Cl r (ja out a);have:=(QQ out a).2
    simp only[mE,lC];omega
theorem Au:∀(gs:List PGaz),(∀g,g∈gs->g.acts.length<=8)->∀out,(bV gs out).length<=out.length+8*gs.length
  |[],_,out=>af _
  | g::r,hb,out=>by
    have:=Au r (fun x hx=>hb x (eC _ hx)) (g.acts.foldl ja out)
    have:=Cl g.acts out
    have:=hb g (eR ..)
    simp only[bV,mE,lC]at *
    omega
theorem P9{out:List PAct}{a b:PAct}(h:b∈ja out a):b∈out\/b=a:=by
  unfold ja at h
  split at h
  · exact .inl h
  · rcases fK.1 h with h|h
    · exact .inl h
    · exact .inr (ig.1 h)
theorem Ci:∀(ys out:List PAct)(b:PAct),b∈ys.foldl ja out->b∈out\/b∈ys
  |[],out,b,h=>.inl h
  | a::r,out,b,h=>by
    rcases Ci r (ja out a) b h with h|h
    · rcases P9 h with h|rfl
      · exact .inl h
      · exact .inr (eR ..)
    · exact .inr (eC _ h)
theorem tY:∀(gs:List PGaz)(out:List PAct)(b:PAct),b∈bV gs out->b∈out\/∃g,g∈gs/\b∈g.acts
  |[],out,b,h=>.inl h
  | g::r,out,b,h=>by
    rcases tY r (g.acts.foldl ja out) b h with h|⟨g2,q1,q2⟩
    · rcases Ci g.acts out b h with h|h
      · exact .inl h
      · exact .inr ⟨g,eR ..,h⟩
    · exact .inr ⟨g2,eC _ q1,q2⟩
theorem va:∀(l:List PAct),(∀a,a∈l->a.items.length<=24)->(ku l).length<=24*l.length
  |[],_=>af _
  | a::r,h=>by
    have:=va r fun b hb=>h b (eC _ hb)
    have:=h a (eR ..)
    simp only[ku,CW,lA,lO,lC]at *
    omega
theorem OkG.act{gs:List PGaz}(h:OkG gs){a:PAct}(ha:a∈dr gs):a.items.length<=24/\(∀x,x∈a.items->nK x=true)/\Yd a:=by
  have ha:=(iO gs).mem_iff.1 ha
  rcases tY gs [] a ha with q|⟨g,h1,h2⟩
  · cases q
  · exact⟨(h.items g h1 a h2).1,(h.items g h1 a h2).2,(h.fit.2 g h1).2 a h2⟩
noncomputable def rV(gs:List PGaz):List PDeed:=bP (al (dr gs) []) (dr gs)
theorem OkG.lens{gs:List PGaz}(h:OkG gs):(dr gs).length<=72/\(rV gs).length<=1728:=by
  have h1:=Au gs h.acts []
  have h2:=(iO gs).length_eq
  have h3:=va (dr gs) fun a ha=>(h.act ha).1
  have h4:=h.len
  have h5:(rV gs).length=(ku (dr gs)).length:=b9 ..
  simp only[lN]at h1
  omega
theorem OkG.all{gs:List PGaz}(h:OkG gs):kP 59 [.ls (gs.map ae)] (.ls ((dr gs).map av))/\kP 80 [.ls (gs.map ae)] (.ls ((rV gs).map aU)):=by
  have h1:=h.lens
  have h2:=(iO gs).length_eq
  have h3:(rV gs).length=(ku (dr gs)).length:=b9 ..
  have h4:=h.len
  exact⟨Ng gs h.fit (fun g hg=>nF (h.acts g hg) (by decide)) (by omega) (by omega),Rg gs h.fit (fun g hg=>nF (h.acts g hg) (by decide)) (by omega) (by omega) (fun a ha=>nF (h.act ha).1 (by decide)) (by omega)⟩
theorem Y2{x y:PItem}(h:nK x=true)(hy:y∈x.by_):nK y=true:=by
  rw[EI]at h
  simp only[bz]at h
  have:=mw.1 h.2.2.2.2.2 y hy
  unfold Ii at this
  exact(oK.1 this).2
theorem Y1{x y:PItem}(h:nr x)(hy:y∈x.by_):nr y:=(qR.1 h).2.2.2.2.2.2 y hy
theorem Gx{K V:Type}{keq:K->K->Bool}{k:K}{v:V}:∀{l:List (K×V)}{e:K×V},e∈fH keq k v l->e∈l\/e.2=v
  | [],e,h=>by
    rw[fH,ig]at h;exact .inr (by rw[h])
  | (j,u)::r,e,h=>by
    rw[fH]at h
    cases q:keq k j with
    | true=>
      rw[q]at h
      rcases dO.1 h with h|h
      · exact .inr (by rw[h])
      · exact .inl (eC _ h)
    | false=>
      rw[q]at h
      rcases dO.1 h with h|h
      · exact .inl (by rw[h];exact eR ..)
      · rcases Gx (l:=r) h with h|h
        · exact .inl (eC _ h)
        · exact .inr h
theorem Hd{K V:Type}{keq:K->K->Bool}{k:K}{v:V}:∀{l:List (K×V)},oZ keq k l=some v->∃e,e∈l/\e.2=v
  |[],h=>by cases h
  | (j,u)::r,h=>by
    rw[oZ]at h
    cases q:keq k j with
    |true=>rw[q]at h;exact⟨(j,u),eR ..,Fu h⟩
    | false=>
      rw[q]at h
      obtain⟨e,h1,h2⟩:=Hd (l:=r) h
      exact⟨e,eC _ h1,h2⟩
theorem O1{m:List ((Int×Int)×PItem)}{x:PItem}(hm:∀e,e∈m->rh e.2)(h1:nK x=true)(h2:nr x):∀e,e∈jF m x->rh e.2:=by
  unfold jF
  split
  · rename_i h
    simp only[bz]at h
    have hl:=aA h.1.2
    have hy:gD x.by_ 0∈x.by_:=dZ (by simp only[oN]at hl;omega)
    intro e he
    rcases Gx he with q|q
    · exact hm e q
    · rw[q];exact Q3 (Y1 h2 hy) (Y2 h1 hy)
  · exact hm
theorem Di:∀(xs:List PItem)(m:List ((Int×Int)×PItem)),(∀e,e∈m->rh e.2)->(∀x,x∈xs->nK x=true/\nr x)->∀e,e∈xs.foldl jF m->rh e.2
  |[],_,hm,_=>hm
  |x::r,m,hm,h=>Di r (jF m x) (O1 hm (h x (eR ..)).1 (h x (eR ..)).2) fun y hy=>h y (eC _ hy)
theorem Dh:∀(l:List PAct)(m:List ((Int×Int)×PItem)),(∀e,e∈m->rh e.2)->(∀a,a∈l->∀x,x∈a.items->nK x=true/\nr x)->∀e,e∈al l m->rh e.2
  |[],_,hm,_=>hm
  |a::r,m,hm,h=>Dh r (a.items.foldl jF m) (Di a.items m hm (h a (eR ..))) fun b hb=>h b (eC _ hb)
theorem A9(a:PAct):∀(l:List PItem)(i:Nat)(d:PDeed),d∈b6 a l i->d.it∈l
  |[],_,d,h=>by cases h
  | x::r,i,d,h=>by
    rcases dO.1 h with rfl|h
    · exact eR ..
    · exact eC _ (A9 a r _ d h)
theorem OkG.deed{gs:List PGaz}(h:OkG gs){d:PDeed}(hd:d∈rV gs):rh d.it:=by
  have hi:∀a,a∈dr gs->∀x,x∈a.items->nK x=true/\nr x:=fun a ha x hx=>⟨(h.act ha).2.1 x hx,(h.act ha).2.2.2 x hx⟩
  obtain⟨o,ho,rfl⟩:=gn.1 hd
  obtain⟨a,ha,hoa⟩:=List.mem_flatMap.1 ho
  have h1:=hi a ha _ (A9 a _ _ _ hoa)
  have h2:rh o.it:=Q3 h1.2 h1.1
  unfold lH
  split
  · rename_i hc
    have hc:=(oK.1 hc).1
    unfold qM at hc
    show rh (I9 (al (dr gs) []) o)
    unfold I9
    cases q:oZ pi (o.act,o.item) (al (dr gs) [])with
    |none=>rw[q]at hc;cases hc
    | some v=>
      obtain⟨e,e1,e2⟩:=Hd q
      have:=Dh (dr gs) [] (fun e he=>by cases he) hi e e1
      rw[e2]at this
      exact this
  · exact h2
noncomputable def fE(day:Int)(p:aH)(gs:List PGaz):List PDeed:=onL day p (dr gs) (rV gs)
noncomputable def Io(day:Int)(p:aH)(gs:List PGaz):TUnit:=bR jv (fE day p gs)
theorem OkG.force{gs:List PGaz}(h:OkG gs)(day:Int)(p:aH):(fE day p gs).length<2^30/\(∀d,d∈fE day p gs->rh d.it)/\kP 21 [iV day,.str p,.ls (gs.map ae)] (.ls ((fE day p gs).map aU)):=by
  have hl:=h.lens
  have h1:(fE day p gs).length<=(rV gs).length:=List.length_filter_le ..
  exact⟨by omega,fun d hd=>h.deed (tf.1 hd).1,Zt gs _ _ day p (by omega) (by omega) h.all.1 h.all.2⟩
theorem OkG.book{gs:List PGaz}(h:OkG gs)(day:Int)(p:aH):kP 16 [iV day,.str p,.ls (gs.map ae)] (eU (Io day p gs)):=
  S3 gs day p _ (h.force day p).1 (h.force day p).2.1 (h.force day p).2.2
theorem OkG.fails{gs:List PGaz}(h:OkG gs)(day:Int)(p:aH):kP 17 [iV day,.str p,.ls (gs.map ae)] (.ls ((eJ jv (fE day p gs)).map dE)):=
  S2 gs day p _ (h.force day p).1 (h.force day p).2.1 (h.force day p).2.2
theorem OkG.okB{gs:List PGaz}(h:OkG gs)(day:Int)(p:aH):OkB (Io day p gs):=Ba E0 (h.force day p).2.1
noncomputable abbrev Gh(a i:Int):AV:=.agg [iV a,iV i]
theorem Sg:kP 44 [] (eU jv):=by
  exact wk Tryz.func44 (.go 2 .fin) (aP (lc<|lc<|lc<|lc<|lc<|.cons bD<|.cons bD<|.cons bD .nil)<|by kernel_rfl:Le _ (AV.agg [iV 0,iV 0,iV 0,iV 0,AV.str [],AV.nils,AV.nils,AV.nils]))
def tk(a i:Int)(d:PDeed):Bool:=ay d.act a&&ay d.item i
def It(a i:Int)(d:PFail):Bool:=ay d.act a&&ay d.item i
theorem Vf(a i:Int)(d:PDeed):kP 51 [aU d,.pptr [Gh a i] 0 0] (.bool (tk a i d)):=by
  have rr0 b' (h:(tk a i d)=b':=by(simp only[tk,bQ,aS,ax,bS, *];first|done|rfl)):=h;exact bp Tryz.func51<|Kj 7 d.act a (fun b _=>Kt 0 b<|Kt 0 b<|Kt 0 b<|Kt 0 b<|Ku 0 b<|Kf 0<|cb<|rr0<|ay d.item i) fun b _=>Mh b<|Mh b<|Mh b<|Mh b<|My b<|Ky 0<|rr0 false
theorem Vd(a i:Int)(d:PFail):kP 52 [dE d,.pptr [Gh a i] 0 0] (.bool (It a i d)):=by
  have rr0 b' (h:(It a i d)=b':=by(simp only[It,bQ,aS,ax,bS, *];first|done|rfl)):=h;exact bp Tryz.func52<|Kj 7 d.act a (fun b _=>Kt 0 b<|Kt 0 b<|Kt 0 b<|Kt 0 b<|Ku 0 b<|Kf 0<|cb<|rr0<|ay d.item i) fun b _=>Mh b<|Mh b<|Mh b<|Mh b<|My b<|Ky 0<|rr0 false
theorem YY(a i:Int)(l:List PDeed)(hl:l.length<2^40):kP 85 [.ls (l.map aU),.func (.func 51) [] [.pptr [Gh a i] 0 0]] (iV (dX (tk a i) l 0)):=by
  have rr0 b' (h:(dX (tk a i) l 0)=b':=by first|exact ke zD0 hr0 hj0 ‹_› |exact hj0):=h;exact bp Tryz.func85<|Kl 2 7 (ln aU l)<|Mg 0<|td aU l [0,1,7,8] (fun b _=>([aW<|l.map aU,bj (bx 51) [] [AV.pptr [ak [iV a,iV i]] 0 0],nV l.length,nV b],[])) (fun b=>dX (tk a i) l (0:Nat)=dX (tk a i) b (l.length-b.length)) (by(exact DV)) (fun _ _ zD0 _ hr0 b hj0=>Kh 0 b<|Kf 0<|li<|rr0 (-1)) fun b _ zD0 _ c d e hr0 f _ g hj0=>Kt 0 f<|Kx 4 g<|Kp 0 (Vf a i c)<|Mb (tk a i c) (fun _=>Kf 1<|li<|rr0<|Int.ofNat b) fun _=>Kl 0 18 (dt b)<|Kf 0<|e<|by exact iE zD0 hr0 hj0 (by assumption)
theorem YV(a i:Int)(l:List PFail)(hl:l.length<2^40):kP 86 [.ls (l.map dE),.func (.func 52) [] [.pptr [Gh a i] 0 0]] (iV (dX (It a i) l 0)):=by
  have rr0 b' (h:(dX (It a i) l 0)=b':=by first|exact ke zD0 hr0 hj0 ‹_› |exact hj0):=h;exact bp Tryz.func86<|Kl 2 7 (ln dE l)<|Mg 0<|td dE l [0,1,7,8] (fun b _=>([aW<|l.map dE,bj (bx 52) [] [AV.pptr [ak [iV a,iV i]] 0 0],nV l.length,nV b],[])) (fun b=>dX (It a i) l (0:Nat)=dX (It a i) b (l.length-b.length)) (by(exact DV)) (fun _ _ zD0 _ hr0 b hj0=>Kh 0 b<|Kf 0<|li<|rr0 (-1)) fun b _ zD0 _ c d e hr0 f _ g hj0=>Kt 0 f<|Kx 4 g<|Kp 0 (Vd a i c)<|Mb (It a i c) (fun _=>Kf 1<|li<|rr0<|Int.ofNat b) fun _=>Kl 0 18 (dt b)<|Kf 0<|e<|by exact iE zD0 hr0 hj0 (by assumption)
theorem YN(a i:Int)(l:List PDeed)(hl:l.length<2^40):kP 53 [.ls (l.map aU),.func (.func 51) [] [.pptr [Gh a i] 0 0]] (.bool (l.any (tk a i))):=by
  have h:=YY a i l hl
  have rr0 b' (h:(l.any (tk a i))=b':=by(rw[jg];simp only[aS,ax,bS,mJ])):=h;exact bp Tryz.func53<|Kp 2 h<|Kf 1<|cb<|rr0<|ax<|aB (dX (tk a i) l 0) 0
theorem YM(a i:Int)(l:List PFail)(hl:l.length<2^40):kP 54 [.ls (l.map dE),.func (.func 52) [] [.pptr [Gh a i] 0 0]] (.bool (l.any (It a i))):=by
  have h:=YV a i l hl
  have rr0 b' (h:(l.any (It a i))=b':=by(rw[jg];simp only[aS,ax,bS,mJ])):=h;exact bp Tryz.func54<|Kp 2 h<|Kf 1<|cb<|rr0<|ax<|aB (dX (It a i) l 0) 0
theorem Ve(gs:List PGaz)(day:Int)(p:aH)(a i:Int)(X:List PDeed)(F:List PFail)(hr:kP 37 [iV day,.str p,.ls (gs.map ae)] (.ls (X.map aU)))(hf:kP 17 [iV day,.str p,.ls (gs.map ae)] (.ls (F.map dE)))(hX:X.length<2^30)(hF:F.length<2^30):kP 23 [iV day,.str p,Gh a i,.ls (gs.map ae)] (.bool (X.any (tk a i)&&ax (F.any (It a i)))):=by
  have h1:=YN a i X (by omega)
  have h2:=YM a i F (by omega)
  have rr0 b' (h:(X.any (tk a i)&&ax (F.any (It a i)))=b':=by(simp only[aS,ax,bS, *];first|done|rfl)):=h;exact bp Tryz.func23<|Kp 8 hr<|K1 0 (.frz 0 [0,1,3,10,16,17]) ti<|Mp h1<|Kb 0 (X.any<|tk a i) (fun b=>Kt 0 b<|Kt 0 b<|Kt 0 b<|Mp hf<|Mt b<|Kt 0 b<|Mp h2<|Mt b<|Ku 0 b<|Kf 0<|cb<|rr0<|ax<|F.any<|It a i) fun b=>Mh b<|Mh b<|Mh b<|Mh b<|Mh b<|Mh b<|My b<|Ky 0<|rr0 false
end Go.Proofs.YtadodlkibeofjaaGreatDoor
