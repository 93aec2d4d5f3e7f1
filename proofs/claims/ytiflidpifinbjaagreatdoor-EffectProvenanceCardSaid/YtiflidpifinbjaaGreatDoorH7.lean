/- Functions walked: what each of them answers, for the law that an act has touched the units that its number names, and that items are effective only while they are in force: part 7. Conditions: those that each theorem names. -/
import Derived.Test.YtiflidpifinbjaaGreatDoorH6
namespace Go.Proofs.YtiflidpifinbjaaGreatDoor
open Go Go.Ev
noncomputable abbrev oy(ep:Nat)(out:lak):AObj:=.row 1 true ep (out.map af)
theorem xA:kP 50 [.nils] (.ls ((ej []).map aJ)):=(fC [] (by simp)).onArgs (.cons Le.nils .nil)
theorem EG{g:Int->Bool}{K:lak}{x e:Nat}{S:lac}(h:S=km g (K.drop (x-1)))(h1:1<=x)(h2:x<K.length)(hg:g (gD K (x-1))=true)(he:e=x+1):S=⟨gD K (x-1),gD K x⟩::km g (K.drop (e-1)):=by rw[h,DX h1 h2,hg,he]
theorem EH{g:Int->Bool}{K:lak}{x e:Nat}{S:lac}(h:S=km g (K.drop (x-1)))(h1:1<=x)(h2:x<K.length)(hg:g (gD K (x-1))=false)(he:e=x+1):S=km g (K.drop (e-1)):=by rw[h,DX h1 h2,hg,he]
theorem abk:bW (cT (pO []))=[]:=sB (by have z:=Br [];exact Nat.le_zero.1 z)
theorem Zi{A B x y:lac}(h1:A=x)(h2:B=y):x++y=A++B:=by rw[h1,h2]
theorem Tt{A B x:lac}(h1:A=x)(h2:B=[]):x=A++B:=by rw[h1,h2,eu]
theorem XT{A B y:lac}(h1:A=[])(h2:B=y):y=A++B:=by rw[h1,h2];rfl
theorem Vp{A r:lac}{w:PSpan}(h:A=w::r)(hl:A.length<=1048577):r.length<2^30:=by rw[h,lC]at hl;omega
theorem UD{A B:lac}{w v:PSpan}{r s:lac}(h:A=w::r)(k:B=v::s)(hl:A.length<=1048577)(kl:B.length<=1048577):small (r.length+1+((v::s).map aJ).length) 16=true:=by
  rw[h,lC]at hl;rw[k,lC]at kl
  rw[lM,lC];refine c8 (m:=2^31) ?_ ?_ ?_<;>omega
theorem L8{B:lac}{v:PSpan}{s:lac}(k:B=v::s)(kl:B.length<=1048577):small ((v::s).map aJ).length 16=true:=by
  rw[k,lC]at kl
  rw[lM,lC];refine c8 (m:=2^31) ?_ ?_ ?_<;>omega
def TE(F:Nat)(A:lac)(B:lac)(z20:lac):Prop:=z20=A++B
noncomputable def TD(F:Nat)(A:lac)(B:lac)(z20:lac):laa×lai:=([AV.ls (A.map aJ),AV.ls (B.map aJ),AV.func (Fn.func F) [] [],AV.nils,AV.ls (z20.map aJ),nV z20.length,iV 0],[])
def PR(F:Nat)(A:lac)(B:lac)(z20:lac)(z37:lak):Prop:=z37=iM z20
noncomputable def PP(F:Nat)(A:lac)(B:lac)(z20:lac)(z37:lak):laa×lai:=([AV.ls (A.map aJ),AV.ls (B.map aJ),AV.func (Fn.func F) [] [],AV.ls (z37.map af)],[])
def PO(F:Nat)(A:lac)(B:lac)(z20:lac)(z37:lak):Prop:=z37=iM z20
noncomputable def PN(F:Nat)(A:lac)(B:lac)(z20:lac)(z37:lak):laa×lai:=([AV.ls (A.map aJ),AV.ls (B.map aJ),AV.func (Fn.func F) [] [],AV.ls (z37.map af)],[])
theorem N5(F:Nat)(op:Bool->Bool->Bool)(hF:∀x y,aP Tryz.prog G F [.bool x,.bool y] (.bool (op x y)))(e0:op false false=false)(a b:lac)(ha:a.length<2^30)(hb:b.length<2^30):
    aP Tryz.prog G 243 [.ls (a.map aJ),.ls (b.map aJ),.func (.func F) [] []] (.ls ((s7 op a b).map aJ)):=by
  have nA:=fC a ha
  have nB:=fC b hb
  have hA:=lx a
  have hB:=lx b
  have hd:=PS e0 (a:=a) (b:=b) rfl rfl
  generalize ej a=A at *
  generalize ej b=B at *
  have lA:=hA.len
  have lB:=hB.len
  have hasA:∀d,aP Tryz.prog G 49 [.ls (A.map aJ),.int .i64 d] (.bool (gT A d)):=λd=>KF A d hA.sort (by omega)
  have hasB:∀d,aP Tryz.prog G 49 [.ls (B.map aJ),.int .i64 d] (.bool (gT B d)):=λd=>KF B d hB.sort (by omega)
  obtain⟨g,hg⟩:∃g:Int->Bool,g=λd=>op (gT A d) (gT B d):=⟨_,rfl⟩
  have hgv:∀d v0,op (gT A d) (gT B d)=v0->g d=v0:=λd v0 h=>by rw[hg];exact h
  rw[<-hg]at hd
  have hcl:∀x,x=A++B->(iM x).length<2^30:=λx hx=>by
    have z:=Br x
    rw[hx,eA]at z
    rw[hx];omega
  have hll:∀x,x=A++B->x.length<2^22:=λx hx=>by rw[hx,eA];omega
  obtain⟨res,hres⟩:∃res,res=s7 op a b:=⟨_,rfl⟩
  rw[<-hres]at hd ⊢
  have hdone:∀x y z,x=A++B->y=iM x->km g y=z->ej z=res:=λx y z h1 h2 h3=>by rw[<-h3,h2,h1];exact hd
  clear hd hg hres hA hB
  have rr0 b' (h:(List.map aJ res)=b':=by first|rfl|exact hdone _ _ _ hz20 hz37 (by rw[hx1.2.2,ll hx1.1 (by(first|omega|(simp only[aT]at *;omega)))])|exact(hdone _ _ _ hz20 hz37 (by rw[hx1.2.2.2.2,ll hx1.1 (by(first|omega|(simp only[aT]at *;omega))),eu]))|(rw[hdone _ _ _ hz20 hz37 (by rw[hx1.2.2,ll hx1.1 (by(first|omega|(simp only[aT]at *;omega)))])])|(rw[hdone _ _ _ hz20 hz37 (by rw[hx1.2.2.2.2,ll hx1.1 (by(first|omega|(simp only[aT]at *;omega))),eu])])):=h;exact bH Tryz.func243<|Kp 1 nA<|Kp 0 nB<|Mg 2<|M0 .inn<|Mj lac [0,1,2,7,20,21,22] (TD F A B) (TE F A B) (λc=>Mg 0<|Mc A (λe=>Ml 17 (fL<|by rw[e];rfl:Le (aW []) (aW (List.map aJ A)))<|Mz 17 (λ(_:([]:laa)=[])=>Mg 1<|Mc B (λe=>Ml 19 (fL<|by rw[e];rfl:Le (aW []) (aW (List.map aJ B)))<|Kl 0 20 bI<|Kf 1<|c [] (by exact Tt (by assumption) (by assumption):[]=A++B)) λe f i=>Ml 19 (fL<|by rw[i]:Le (aW (List.map aJ (e::f))) (aW (List.map aJ B)))<|M2 .apl (et (by exact jO _ _:List.map aJ (e::f)≠[])<|fM 2 aJ (e::f) λ_=>rfl) (by exact L8 (by assumption) lB:small (List.map aJ (e::f)).length 16=true)<|M2 (.fsl 0 [0,1,2,7] 20<|List.map aJ<|e::f) True.intro (cL (aY 0) (tA aJ (e::f) (List.map aJ<|e::f).length (by(simp only[cw,dw,eA];done):(e::f).length=(List.map aJ (e::f)).length))<|aX XN<|e::f)<|Ml 20 (fe (List.map aJ<|e::f) false<|aX XN<|e::f)<|Kl 0 21 (ln aJ<|e::f)<|Kf 0<|c (e::f) (by exact XT (by assumption) (by assumption):e::f=A++B))<|Mg 1<|Mc B (λe=>Ml 19 (fL<|by rw[e];rfl:Le (aW []) (aW (List.map aJ B)))<|Kl 0 20 (fe [] true (aY 0:az ([])=0))<|Kf 1<|c [] (by exact Tt (by assumption) (by assumption):[]=A++B)) λe f i=>Ml 19 (fL<|by rw[i]:Le (aW (List.map aJ (e::f))) (aW (List.map aJ B)))<|M2 .apl (et (by exact jO _ _:List.map aJ (e::f)≠[])<|fM 2 aJ (e::f) λ_=>rfl) (by exact L8 (by assumption) lB:small (List.map aJ (e::f)).length 16=true)<|M2 (.fsl 0 [0,1,2,7] 20<|List.map aJ<|e::f) True.intro (cL (aY 0) (tA aJ (e::f) (List.map aJ<|e::f).length (by(simp only[cw,dw,eA];done):(e::f).length=(List.map aJ (e::f)).length))<|aX XN<|e::f)<|Ml 20 (fe (List.map aJ<|e::f) false<|aX XN<|e::f)<|Kl 0 21 (ln aJ<|e::f)<|Kf 0<|c (e::f) (by exact XT (by assumption) (by assumption):e::f=A++B)) λe f i=>Ml 17 (fL<|by rw[i]:Le (aW (List.map aJ (e::f))) (aW (List.map aJ A)))<|Me (Td e f<|by exact Vp (by assumption) lA)<|Mg 0<|Mc B (λi=>Ml 19 (fL<|by rw[i];rfl:Le (aW []) (aW (List.map aJ B)))<|Mg 0<|M2 (.fsl 0 [0,1,2,7] 20<|List.map aJ<|e::f) True.intro (cL (aY 0) (tA aJ (e::f) (f.length+1) rfl)<|aX XN<|e::f)<|Ml 20 (fe (List.map aJ<|e::f) false<|aX XN<|e::f)<|Kl 0 21 (ln aJ<|e::f)<|Kf 0<|c (e::f) (by exact Tt (by assumption) (by assumption):e::f=A++B)) λi j k=>Ml 19 (fL<|by rw[k]:Le (aW (List.map aJ (i::j))) (aW (List.map aJ B)))<|M2 .apl (et (by exact jO _ _:List.map aJ (i::j)≠[])<|fM 2 aJ (i::j) λ_=>rfl) (cL (aY 0) (by(simp only[cw,dw,eA];done):f.length+1=(List.map aJ (e::f)).length) (by exact UD (by assumption) (by assumption) lA lB:small (f.length+1+(List.map aJ (i::j)).length) 16=true))<|M1 (.obj 0<|aZ 2 true (0+1)<|List.map aJ<|e::f++i::j) (congrArg (aZ 2 true<|0+1)<|cO (f:=aJ) (l:=e::f) (ws:=i::j))<|M2 (.fsl 0 [0,1,2,7] 20<|List.map aJ<|e::f++i::j) True.intro (cL (aY<|0+1) (tA aJ (e::f++i::j) (f.length+1+(List.map aJ<|i::j).length) (by(simp only[cw,dw,eA];done):(e::f++i::j).length=f.length+1+(List.map aJ (i::j)).length))<|aX XN<|e::f++i::j)<|Ml 20 (fe (List.map aJ<|e::f++i::j) false<|aX XN<|e::f++i::j)<|Kl 0 21 (ln aJ<|e::f++i::j)<|Kf 0<|c (e::f++i::j) (by exact Zi (by assumption) (by assumption):e::f++i::j=A++B)) λc hz20=>have hz20:=hz20;ky Nat Nat lak aJ c [0,1,2,7,20,21,22] (λe _=>([aW<|A.map aJ,aW<|B.map aJ,bc (bb F) [] [],ah,aW<|c.map aJ,nV c.length,nV e],[])) (λe _ f i j=>([aW<|A.map aJ,aW<|B.map aJ,bc (bb F) [] [],aM 0 f 0 i none,aW<|c.map aJ,nV c.length,nV e],[aZ 1 true f<|j.map af])) (λe=>pO c=pO e) (λe _ f i=>f=i.length/\(0:Nat)<i.length/\pO c=i++pO e) (by rfl) (λ_ _ _ _ _ e f=>Kh 0 e<|Kp 0 Ht<|Mj lak [0,1,2,7] (PP F A B c) (PR F A B c) (λe=>Kl 1 37 bI<|Kf 0<|e [] (by(unfold iM;rw[f];exact abk.symm):[]=iM c)) λe hz37=>have hz37:=hz37;have:=hz37▸hcl _ hz20;Mg 1<|UK Nat Nat Nat lac (1:Nat) [0,1,2,7,10,11] (λc=>([aW<|A.map aJ,aW<|B.map aJ,bc (bb F) [] [],aW<|e.map af,ah,nV c],[])) (λc f i j=>([aW<|A.map aJ,aW<|B.map aJ,bc (bb F) [] [],aW<|e.map af,aM 0 f 0 i none,nV c],[aZ 2 true f<|j.map aJ])) (λc=>(1:Nat)<=c/\c<=2^30/\km g e=km g (e.drop<|c-1)) (λc _ f i=>(1:Nat)<=c/\c<=2^30/\f=i.length/\i.length<c/\km g e=i++km g (e.drop<|c-1)) (λc=>2^31-c) (λc _ _ _=>2^31-c) (by exact⟨ar _,by omega,rfl⟩) (λc hx1 f i=>have hx1:=hx1;have:=hx1.1;have:=hx1.2.1;Kl 2 40 (ln af e)<|Ka 0 (Int.ofNat c) (Int.ofNat e.length) (λ_ _=>Kl 2 46 (El c)<|Mx (bw af (by(simp only[aT,cw,lQ]at *;omega):c-1<(e).length))<|Kp 4 (hasA<|gD e<|c-1)<|Kp 1 (hasB<|gD e<|c-1)<|Mp (hF (gT A<|gD e<|c-1)<|gT B<|gD e<|c-1)<|Mb (op (gT A<|gD e<|c-1)<|gT B<|gD e<|c-1) (λ_=>Kx 3 (bw af (by(simp only[aT,cw,lQ]at *;omega):c<(e).length))<|Kl 6 43 (jo c)<|Kf 0<|i (c+1) 0 1 [PSpan.mk (gD e<|c-1)<|gD e c] (by exact⟨by(omega),by(simp only[aT]at *;omega),rfl,by(simp only[dw,hJ];omega),EG hx1.2.2 hx1.1 (by(simp only[aT]at *;omega)) (hgv _ _ (by assumption)) rfl⟩)<|by(omega)) λ_=>Kl 1 43 (jo c)<|Kf 0<|f (c+1) (by exact⟨by(omega),by(simp only[aT]at *;omega),EH hx1.2.2 hx1.1 (by(simp only[aT]at *;omega)) (hgv _ _ (by assumption)) rfl⟩)<|by(omega)) λ_ _=>Kp 0 xA<|Kf 0<|ch<|rr0<|List.map aJ<|ej []) λc i j k hx1 _ l=>have hx1:=hx1;have:=hx1.1;have:=hx1.2.1;Kl 2 40 (ln af e)<|Ka 0 (Int.ofNat c) (Int.ofNat e.length) (λ_ _=>Kl 2 46 (El c)<|Mx (bw af (by(simp only[aT,cw,lQ]at *;omega):c-1<(e).length))<|Kp 4 (hasA<|gD e<|c-1)<|Kp 1 (hasB<|gD e<|c-1)<|Mp (hF (gT A<|gD e<|c-1)<|gT B<|gD e<|c-1)<|Mb (op (gT A<|gD e<|c-1)<|gT B<|gD e<|c-1) (λ_=>Kx 3 (bw af (by(simp only[aT,cw,lQ]at *;omega):c<(e).length))<|K1 2 .app (cL (aY i) (by(rw[cw];first|exact f.1|exact hx1.2.2.1):j=(List.map aJ k).length) (by(refine c8 (m:=2^31) ?_ ?_ ?_<;>first|omega|(simp only[cw,dw,eA,hJ];omega)|(have z:=congrArg List.length f.2.2;rw[kH,eA]at z;have z9:=hll _ hz20;have z2:=f.1;first|omega|(simp only[dw,hJ];omega))|(have z:=hx1.2.2.2.1;have z2:=hx1.2.2.1;have z3:=hx1.2.1;first|omega|(simp only[dw,hJ];omega))):small (j+1) 16=true))<|M1 (.obj 0<|aZ 2 true (i+1)<|List.map aJ<|k++[PSpan.mk (gD e<|c-1)<|gD e c]) (congrArg (aZ 2 true<|i+1)<|cO (f:=aJ) (l:=k) (ws:=[PSpan.mk (gD e<|c-1)<|gD e c]))<|Kl 2 43 (jo c)<|Kf 0<|l (c+1) (i+1) (j+1) (k++[PSpan.mk (gD e<|c-1)<|gD e c]) (by exact⟨by(omega),by(simp only[aT]at *;omega),by rw[eA,<-hx1.2.2.1];rfl,by(have z:=hx1.2.2.2.1;simp only[eA,dw,hJ];omega),by rw[hx1.2.2.2.2,EG rfl hx1.1 (by(simp only[aT]at *;omega)) (hgv _ _ (by assumption)) rfl];simp⟩)<|by(omega)) λ_=>Kl 1 43 (jo c)<|Kf 0<|l (c+1) i j k (by exact⟨by(omega),by(simp only[aT]at *;omega),hx1.2.2.1,by(have z:=hx1.2.2.2.1;omega),by rw[hx1.2.2.2.2,EH rfl hx1.1 (by(simp only[aT]at *;omega)) (hgv _ _ (by assumption)) rfl]⟩)<|by(omega)) λ_ _=>Mg 0<|M2 (.fsl 0 [] 66<|List.map aJ k) True.intro (cL (aY i) (tA aJ k j (by(omega):(k).length=j))<|aX XN k)<|Ml 66 (fe (List.map aJ k) false<|aX XN k)<|Mp (fC k<|by(omega))<|Kf 0<|ch<|rr0<|List.map aJ<|ej k) (λe _ _ _ f i _ j _ k _ l n=>have:=hll _ hz20;Kt 0 k<|Mx l<|Kl 11 33 (jo e)<|Mg 0<|M0 (.ren [1,0] [] [0,1,2,7,20,21,22])<|M1 (.frz 1 [0,1,2,7,20,21,22]) (et (aY true) True.intro)<|Mf<|j 0 2 [f.from_,f.to]<|by exact⟨rfl,by simp,by rw[n];rfl⟩) (λ_ _ e f i _ _ _ j k=>Kh 0 j<|Ke 0 (KA i e f (by(omega)) (by(omega))<|by(have z:=congrArg List.length k.2.2;rw[kH,eA]at z;have z9:=hll _ hz20;omega))<|Mj lak [0,1,2,7] (PN F A B c) (PO F A B c) (λj=>Ke 0 (Cn (cT i) e f (by(rw[(jR _).length_eq];first|exact k.1|exact k.2.1|(have z:=congrArg List.length k.2.2;rw[kH,eA]at z;have z9:=hll _ hz20;omega))) (by(rw[(jR _).length_eq];first|exact k.1|exact k.2.1|(have z:=congrArg List.length k.2.2;rw[kH,eA]at z;have z9:=hll _ hz20;omega)))<|by(rw[(jR _).length_eq];first|exact k.1|exact k.2.1|(have z:=congrArg List.length k.2.2;rw[kH,eA]at z;have z9:=hll _ hz20;omega)))<|M2 (.fsl 0 [0,1,2] 37<|List.map af<|List.take (bW<|cT i).length<|bW (cT i)++List.replicate ((cT i).length -(bW<|cT i).length) 0) True.intro (cL (aY e) (xh (f:=af) (l:=bW (cT i)++List.replicate ((cT i).length -(bW<|cT i).length) 0) (n:=(bW<|cT i).length))<|aX LZ<|List.take (bW<|cT i).length<|bW (cT i)++List.replicate ((cT i).length -(bW<|cT i).length) 0)<|Ml 37 (fe (List.map af<|List.take (bW<|cT i).length<|bW (cT i)++List.replicate ((cT i).length -(bW<|cT i).length) 0) false<|aX LZ<|List.take (bW<|cT i).length<|bW (cT i)++List.replicate ((cT i).length -(bW<|cT i).length) 0)<|Kf 0<|j (List.take (bW<|cT i).length<|bW (cT i)++List.replicate ((cT i).length -(bW<|cT i).length) 0) (by(unfold iM;rw[k.2.2];simp[pO]):List.take (bW (cT i)).length (bW (cT i)++List.replicate ((cT i).length -(bW (cT i)).length) (0:Int))=iM c)) λe hz37=>have hz37:=hz37;have:=hz37▸hcl _ hz20;Mg 1<|UK Nat Nat Nat lac (1:Nat) [0,1,2,7,10,11] (λc=>([aW<|A.map aJ,aW<|B.map aJ,bc (bb F) [] [],aW<|e.map af,ah,nV c],[])) (λc f i j=>([aW<|A.map aJ,aW<|B.map aJ,bc (bb F) [] [],aW<|e.map af,aM 0 f 0 i none,nV c],[aZ 2 true f<|j.map aJ])) (λc=>(1:Nat)<=c/\c<=2^30/\km g e=km g (e.drop<|c-1)) (λc _ f i=>(1:Nat)<=c/\c<=2^30/\f=i.length/\i.length<c/\km g e=i++km g (e.drop<|c-1)) (λc=>2^31-c) (λc _ _ _=>2^31-c) (by exact⟨ar _,by omega,rfl⟩) (λc hx1 f i=>have hx1:=hx1;have:=hx1.1;have:=hx1.2.1;Kl 2 40 (ln af e)<|Ka 0 (Int.ofNat c) (Int.ofNat e.length) (λ_ _=>Kl 2 46 (El c)<|Mx (bw af (by(simp only[aT,cw,lQ]at *;omega):c-1<(e).length))<|Kp 4 (hasA<|gD e<|c-1)<|Kp 1 (hasB<|gD e<|c-1)<|Mp (hF (gT A<|gD e<|c-1)<|gT B<|gD e<|c-1)<|Mb (op (gT A<|gD e<|c-1)<|gT B<|gD e<|c-1) (λ_=>Kx 3 (bw af (by(simp only[aT,cw,lQ]at *;omega):c<(e).length))<|Kl 6 43 (jo c)<|Kf 0<|i (c+1) 0 1 [PSpan.mk (gD e<|c-1)<|gD e c] (by exact⟨by(omega),by(simp only[aT]at *;omega),rfl,by(simp only[dw,hJ];omega),EG hx1.2.2 hx1.1 (by(simp only[aT]at *;omega)) (hgv _ _ (by assumption)) rfl⟩)<|by(omega)) λ_=>Kl 1 43 (jo c)<|Kf 0<|f (c+1) (by exact⟨by(omega),by(simp only[aT]at *;omega),EH hx1.2.2 hx1.1 (by(simp only[aT]at *;omega)) (hgv _ _ (by assumption)) rfl⟩)<|by(omega)) λ_ _=>Kp 0 xA<|Kf 0<|ch<|rr0<|List.map aJ<|ej []) λc f i j hx1 _ l=>have hx1:=hx1;have:=hx1.1;have:=hx1.2.1;Kl 2 40 (ln af e)<|Ka 0 (Int.ofNat c) (Int.ofNat e.length) (λ_ _=>Kl 2 46 (El c)<|Mx (bw af (by(simp only[aT,cw,lQ]at *;omega):c-1<(e).length))<|Kp 4 (hasA<|gD e<|c-1)<|Kp 1 (hasB<|gD e<|c-1)<|Mp (hF (gT A<|gD e<|c-1)<|gT B<|gD e<|c-1)<|Mb (op (gT A<|gD e<|c-1)<|gT B<|gD e<|c-1) (λ_=>Kx 3 (bw af (by(simp only[aT,cw,lQ]at *;omega):c<(e).length))<|K1 2 .app (cL (aY f) (by(rw[cw];first|exact k.1|exact hx1.2.2.1):i=(List.map aJ j).length) (by(refine c8 (m:=2^31) ?_ ?_ ?_<;>first|omega|(simp only[cw,dw,eA,hJ];omega)|(have z:=congrArg List.length k.2.2;rw[kH,eA]at z;have z9:=hll _ hz20;have z2:=k.1;first|omega|(simp only[dw,hJ];omega))|(have z:=hx1.2.2.2.1;have z2:=hx1.2.2.1;have z3:=hx1.2.1;first|omega|(simp only[dw,hJ];omega))):small (i+1) 16=true))<|M1 (.obj 0<|aZ 2 true (f+1)<|List.map aJ<|j++[PSpan.mk (gD e<|c-1)<|gD e c]) (congrArg (aZ 2 true<|f+1)<|cO (f:=aJ) (l:=j) (ws:=[PSpan.mk (gD e<|c-1)<|gD e c]))<|Kl 2 43 (jo c)<|Kf 0<|l (c+1) (f+1) (i+1) (j++[PSpan.mk (gD e<|c-1)<|gD e c]) (by exact⟨by(omega),by(simp only[aT]at *;omega),by rw[eA,<-hx1.2.2.1];rfl,by(have z:=hx1.2.2.2.1;simp only[eA,dw,hJ];omega),by rw[hx1.2.2.2.2,EG rfl hx1.1 (by(simp only[aT]at *;omega)) (hgv _ _ (by assumption)) rfl];simp⟩)<|by(omega)) λ_=>Kl 1 43 (jo c)<|Kf 0<|l (c+1) f i j (by exact⟨by(omega),by(simp only[aT]at *;omega),hx1.2.2.1,by(have z:=hx1.2.2.2.1;omega),by rw[hx1.2.2.2.2,EH rfl hx1.1 (by(simp only[aT]at *;omega)) (hgv _ _ (by assumption)) rfl]⟩)<|by(omega)) λ_ _=>Mg 0<|M2 (.fsl 0 [] 66<|List.map aJ j) True.intro (cL (aY f) (tA aJ j i (by(omega):(j).length=i))<|aX XN j)<|Ml 66 (fe (List.map aJ j) false<|aX XN j)<|Mp (fC j<|by(omega))<|Kf 0<|ch<|rr0<|List.map aJ<|ej j) λe _ f i j _ _ k l _ n _ o _ p q=>have:=hll _ hz20;Kt 0 o<|Mx p<|K1 8 .app (cL (aY f) (by(rw[cw];first|exact q.1|exact hx1.2.2.1):i=(List.map af j).length) (by(refine c8 (m:=2^31) ?_ ?_ ?_<;>first|omega|(simp only[cw,dw,eA,hJ];omega)|(have z:=congrArg List.length q.2.2;rw[kH,eA]at z;have z9:=hll _ hz20;have z2:=q.1;first|omega|(simp only[dw,hJ];omega))|(have z:=hx1.2.2.2.1;have z2:=hx1.2.2.1;have z3:=hx1.2.1;first|omega|(simp only[dw,hJ];omega))):small (i+2) 8=true))<|M1 (.obj 0<|aZ 1 true (f+1)<|List.map af<|j++[k.from_,k.to]) (congrArg (aZ 1 true<|f+1)<|cO (f:=af) (l:=j) (ws:=[k.from_,k.to]))<|Kl 1 33 (jo e)<|K1 0 (.frz 1 [0,1,2,7,20,21,22]) (et (tR 1 true (f+1) 1<|aX LZ<|j++[k.from_,k.to]) True.intro)<|Mf<|n (f+1) (i+2) (j++[k.from_,k.to])<|by exact⟨by rw[eA,<-q.1];rfl,by simp,by rw[q.2.2,D0];simp⟩
theorem Yb(x y:Bool):kP 244 [.bool x,.bool y] (.bool (x||y)):=by
  have rr0 b' (h:(x||y)=b':=by simp only[aS,ak,bS, *]):=h;exact bH Tryz.func244<|Kb 2 x (λa=>MV a<|Ky 0<|rr0 true) λa=>Kw 0 a<|Ky 0<|rr0 y
theorem XW(x y:Bool):kP 245 [.bool x,.bool y] (.bool (x&&y)):=by
  have rr0 b' (h:(x&&y)=b':=by simp only[aS,ak,bS, *]):=h;exact bH Tryz.func245<|Kb 2 x (λa=>Ku 0 a<|Ky 0<|rr0 y) λa=>My a<|Ky 0<|rr0 false
theorem Ql(a b:lac)(ha:a.length<2^30)(hb:b.length<2^30):kP 179 [.ls (a.map aJ),.ls (b.map aJ)] (.ls ((s7 (· || ·) a b).map aJ)):=by
  have h:=N5 244 (· || ·) Yb rfl a b ha hb
  exact bH Tryz.func179<|Kp 2 h<|Kf 0<|bA<|aW<|(s7 (λc d=>c||d) a b).map aJ
theorem SQ(a b:lac)(ha:a.length<2^30)(hb:b.length<2^30):kP 181 [.ls (a.map aJ),.ls (b.map aJ)] (.ls ((s7 (· && ·) a b).map aJ)):=by
  have h:=N5 245 (· && ·) XW rfl a b ha hb
  exact bH Tryz.func181<|Kp 2 h<|Kf 0<|bA<|aW<|(s7 (λc d=>c&&d) a b).map aJ
noncomputable def pw(a:lac)(d:Int):lac:=s7 (· && ·) a [⟨0,d⟩]
noncomputable def qg(a:lac)(d:Int):lac:=s7 (· || ·) (pw a d) [⟨d,1048577⟩]
theorem tV(a:lac)(d:Int):NrmS (pw a d):=tu _
theorem vb(a:lac)(d:Int):NrmS (qg a d):=tu _
theorem Ge(a:lac)(d:Int)(ha:a.length<2^30):kP 112 [.ls (a.map aJ),iV d] (.ls ((pw a d).map aJ)):=by
  have h:kP 181 [.ls (a.map aJ),.ps [aJ ⟨0,d⟩] true] (.ls ((pw a d).map aJ)):=(SQ a [⟨0,d⟩] ha (by simp)).onArgs (.cons (Le.refl _) (.cons (Le.ps _ _ rfl) .nil))
  exact bH Tryz.func112<|Kp 4 h<|Kf 0<|bA<|aW<|(pw a d).map aJ
theorem SR(a:lac)(d:Int)(ha:a.length<2^30):kP 110 [.ls (a.map aJ),iV d] (.ls ((qg a d).map aJ)):=by
  have h0:=Ge a d ha
  have hl:=(tV a d).len
  have h:kP 179 [.ls ((pw a d).map aJ),.ps [aJ ⟨d,1048577⟩] true] (.ls ((qg a d).map aJ)):=(Ql (pw a d) [⟨d,1048577⟩] (by omega) (by simp)).onArgs (.cons (Le.refl _) (.cons (Le.ps _ _ rfl) .nil))
  exact bH Tryz.func110<|Kp 2 h0<|Kp 2 h<|Kf 0<|bA<|aW<|(qg a d).map aJ
noncomputable def sS(k:Int):Bool:=ae k 7||ae k 9
noncomputable def lk(k:Int):Bool:=sS k||ae k 8
noncomputable def sG(k:Int):AV:=match sS k with|true=>.func (.func 110) [] []|false=>match ae k 8 with|true=>.func (.func 112) [] []|false=>.nilf
theorem AE(k:Int):fW (some .nilf) true (bf false 1 [(0,1)] (iV k) [⟨iV 7,.func (.func 110) [] [],0⟩,⟨iV 9,.func (.func 110) [] [],1⟩,⟨iV 8,.func (.func 112) [] [],2⟩] 0)=some (.tuple [sG k,.bool (lk k)]):=by
  unfold sG lk sS
  simp only[bf,rx,K5,lX]
  cases h1:ae k 7<;>cases h2:ae k 9<;>cases h3:ae k 8<;>rfl
theorem Qr{k:Int}(h:sS k=true):Le (.func (.func 110) [] []) (sG k):=by unfold sG;rw[h];exact Le.refl _
theorem Ui{k:Int}(h:sS k=false)(h2:lk k=true):Le (.func (.func 112) [] []) (sG k):=by
  unfold lk at h2;rw[h,Bool.false_or]at h2
  unfold sG;rw[h,h2];exact Le.refl _
noncomputable def Qs:laq:=[⟨iV 7,.func (.func 110) [] [],0⟩,⟨iV 9,.func (.func 110) [] [],1⟩,⟨iV 8,.func (.func 112) [] [],2⟩]
theorem Ug(x:PItem):kD 79 [] (aw [.row 25 false 0 [eI x]]) (.map 1) (aw [.row 25 false 0 [eI x],.map Qs 3]):=by
  exact eg Tryz.func79 λa=>Kf 6 a
theorem Uh(s:PStart)(d o:PDeed):kD 79 [] (aw [.row 3 false 0 [ax s],.row 28 false 0 [aV d],.row 28 false 0 [aV o]]) (.map 3) (aw [.row 3 false 0 [ax s],.row 28 false 0 [aV d],.row 28 false 0 [aV o],.map Qs 3]):=by
  exact eg Tryz.func79 λa=>Kf 6 a
noncomputable def rP(x:PItem)(a i:Int):Bool:=ae x.act a&&(match ae x.kind 11 with|true=>ae x.item i|false=>lk x.kind&&(ae x.item i||ae x.item (-1)))
theorem OC(x:PItem)(a i:Int):kP 80 [eI x,iV a,iV i] (.bool (rP x a i)):=by
  have hlk:=AE
  have rr0 b' (h:(rP x a i)=b':=by unfold rP;generalize ae x.act a=p1 at *;generalize ae x.kind 11=p2 at *;generalize ae x.item i=p3 at *;generalize ae x.item (-1)=p4 at *;generalize lk x.kind=p5 at *;simp only[aS,ak,bS, *]):=h;let q:=[av (iLx x)];let q1:=bc (bb 110) [] [];exact bH Tryz.func80<|Kc 5 x.act a (λ_ _=>Ky 0<|rr0 false) λ_ _=>Kj 2 x.kind 11 (λ_ _=>Kf 4<|cq<|rr0<|ae x.item i) λ_ _=>M3 (.efx true (AV.map 1)<|aw [aZ 25 false 0 q,AObj.map [AEnt.mk (iV 7) q1 0,AEnt.mk (iV 9) q1 1,AEnt.mk (iV 8) (bc (bb 112) [] []) 2] 3]) (et rt ti) (et (aY<|some<|aZ 25 false 0 q) ti) (Ug x)<|K1 1 (.look<|cX [sG x.kind,fZ<|lk x.kind]) (hlk x.kind)<|Kb 6 (lk x.kind) (λb=>Kt 0 b<|Kt 0 b<|Kt 0 b<|Kt 0 b<|Kj 0 x.item i (λc _=>Mt c<|Mt c<|Mt b<|MV c<|MV b<|Ky 0<|rr0 true) λc _=>Kh 0 c<|Kh 0 c<|Kt 0 b<|My c<|MV b<|Kf 0<|cq<|rr0<|ae x.item (-1)) λb=>Mh b<|Mh b<|Mh b<|Mh b<|Mh b<|My b<|Ky 0<|rr0 false
noncomputable abbrev iY(nm:bZ):AObj:=.row 1 false 0 [.str nm]
noncomputable def s6(nm:bZ)(d:PDeed):Bool:=ae d.it.kind 10&&ei d.it.event nm
theorem S1(nm:bZ)(d:PDeed):kD 180 [aV d,.ptr 0 0 0 0] (aw [iY nm]) (.bool (s6 nm d)) (aw [iY nm]):=by
  let q:=aw [aZ 1 false 0 [aj nm]];exact Jl Tryz.func180<|Kj 6 d.it.kind 10 (λa _=>Kt 0 a<|Kt 0 a<|Kt 0 a<|Kt 0 a<|Ku 0 a<|K1 0 (.frz 1 [3]) (et rt ti)<|Mf<|et (by unfold s6;generalize ae d.it.kind 10=p1 at *;generalize ei d.it.event nm=p2 at *;simp only[aS,ak,bS, *]:(AV.bool (ei d.it.event nm))=(AV.bool (s6 nm d)))<|aY q) λa _=>Mh a<|Mh a<|Mh a<|Mh a<|My a<|K1 0 (.frz 1 [3]) (et rt ti)<|Mf<|et (by unfold s6;generalize ae d.it.kind 10=p1 at *;generalize ei d.it.event nm=p2 at *;simp only[aS,ak,bS, *]:(AV.bool false)=(AV.bool (s6 nm d)))<|aY q
noncomputable def jf(nm:bZ):lab->Nat->Int
  |[],_=> -1
  |d::r,i=>match s6 nm d with|true=>Int.ofNat i|false=>jf nm r (i+1)
theorem Nm(nm:bZ):∀(l:lab)(i:Nat),jf nm l i<Int.ofNat (i+l.length)/\(0<=jf nm l i\/jf nm l i= -1)
  |[],i=>⟨by simp only[jf,oN];omega,.inr rfl⟩
  | d::r,i=>by
    have:=Nm nm r (i+1)
    cases h:s6 nm d<;>simp only[jf,h,oN,lC]at * <;>omega
theorem aaV{nm:bZ}{d:PDeed}{r:lab}{i:Nat}(h:s6 nm d=true):jf nm (d::r) i=Int.ofNat i:=by simp only[jf,h]
theorem aaW{nm:bZ}{d:PDeed}{r:lab}{i:Nat}(h:s6 nm d=false):jf nm (d::r) i=jf nm r (i+1):=by simp only[jf,h]
theorem DA(nm:bZ)(l:lab)(hl:l.length<2^40):kD 51 [.ls (l.map aV),.func (.func 180) [] [.ptr 0 0 0 0]] (aw [iY nm]) (iV (jf nm l 0)) (aw [iY nm]):=by
  let q:=aw [aZ 1 false 0 [aj nm]];exact Jl Tryz.func51<|Kl 2 7 (ln aV l)<|Mg 0<|sn aV l [0,1,7,8] (λa _=>([aW<|l.map aV,bc (bb 180) [] [bY 0 0 0 0],nV l.length,nV a],[aZ 1 false 0 [aj nm]])) (λa=>jf nm l (0:Nat)=jf nm a (l.length-a.length)) (by(rw[Nat.sub_self])) (λ_ _ _ _ _ a b=>Kh 0 a<|Kf 0<|et (by(rw[b];rfl):(iV (-1))=(iV (jf nm l 0)))<|aY q) λa _ b _ c d e f g _ h i=>have:=gC b f;Kt 0 g<|Kx 4 h<|Ke 0 (S1 nm c)<|Mb (s6 nm c) (λ_=>Kf 1<|et (by(rw[i,aaV (by assumption)];congr 2;have z:=JO (b.trans f) (by simp) (by simp only[lC];omega:(l.length-(d.length+1))+(c::d).length=l.length);exact z):(nV a)=(iV (jf nm l 0)))<|aY q) λ_=>Kl 0 18 (dQ a)<|Kf 0<|e<|by(rw[i,aaW (by assumption)];congr 1;have:=gC b f;simp only[lC];omega)
theorem SS(d:Int):kP 110 [.nils,iV d] (.ls ((qg [] d).map aJ)):=(SR [] d (by simp)).onArgs (.cons Le.nils (.cons (Le.refl _) .nil))
theorem K3(nm:bZ)(l:lab)(hl:l.length<2^40)(h:aE (jf nm l 0) 0=true):kP 111 [.str nm,.ls (l.map aV)] (.tuple [iV 0,.bool false]):=by
  exact bH Tryz.func111<|Ke 4 (DA nm l hl)<|Kt 2 h<|Kf 1<|bA<|cX [iV 0,fZ false]
theorem K4(nm:bZ)(l:lab)(hl:l.length<2^40)(h:aE (jf nm l 0) 0=false):kP 111 [.str nm,.ls (l.map aV)] (.tuple [iV (gD l (jf nm l 0).toNat).it.day,.bool true]):=by
  have g1:=aI h
  have g2:=(Nm nm l 0).1
  exact bH Tryz.func111<|Ke 4 (DA nm l hl)<|Kh 2 h<|Kl 1 13 (CY (x:=jf nm l 0) oA)<|Mx (bw aV (by(simp only[oN,lM,lS]at *;omega):(jf nm l 0).toNat<(l).length))<|Kf 4<|bA<|cX [iV (gD l (jf nm l 0).toNat).it.day,fZ true]
noncomputable def lL(s:PStart)(l:lab):lac:=match ae s.kind 1 with|true=>qg [] s.day|false=>match ae s.kind 3 with|true=>(match aE (jf s.event l 0) 0 with|true=>[]|false=>qg [] (gD l (jf s.event l 0).toNat).it.day)|false=>[]
theorem Px(s:PStart)(l:lab)(hl:l.length<2^40)(hi:aE (jf s.event l 0) 0=true):kP 77 [ax s,.ls (l.map aV)] (.ls ((lL s l).map aJ)):=by
  have he:=K3 s.event l hl hi
  have e:lL s l=match ae s.kind 1 with|true=>qg [] s.day|false=>[]:=(by unfold lL;rw[hi];cases ae s.kind 1<;>cases ae s.kind 3<;>rfl)
  rw[e]
  have rr0 b' (h:((match ae s.kind 1 with|true=>qg [] s.day|false=>[]).map aJ)=b':=by generalize ae s.kind 1=p1 at *;(rw[h0]);try rfl):=h;exact bH Tryz.func77<|Kj 5 s.kind 1 (λh0 _=>Kp 1 (SS s.day)<|Kf 0<|ch<|rr0<|(qg [] s.day).map aJ) λh0 _=>Kj 1 s.kind 3 (λ_ _=>Kp 2 he<|Kf 7 (Le.lsn<|rr0 []:Le _ (ah))) λ_ _=>Kf 0 (Le.lsn<|rr0 []:Le _ (ah))
theorem Pj(s:PStart)(l:lab)(hl:l.length<2^40)(hi:aE (jf s.event l 0) 0=false):kP 77 [ax s,.ls (l.map aV)] (.ls ((lL s l).map aJ)):=by
  have he:=K4 s.event l hl hi
  have e:lL s l=match ae s.kind 1 with|true=>qg [] s.day|false=>match ae s.kind 3 with|true=>qg [] (gD l (jf s.event l 0).toNat).it.day |false=>[]:=(by unfold lL;rw[hi])
  rw[e]
  have rr0 b' (h:((match ae s.kind 1 with|true=>qg [] s.day|false=>match ae s.kind 3 with|true=>qg [] (gD l (jf s.event l 0).toNat).it.day |false=>[]).map aJ)=b':=by generalize ae s.kind 1=p1 at *;generalize ae s.kind 3=p3 at *;(rw[h0]);(first|rw[h1]|skip);try rfl):=h;exact bH Tryz.func77<|Kj 5 s.kind 1 (λh0 _=>Kp 1 (SS s.day)<|Kf 0<|ch<|rr0<|(qg [] s.day).map aJ) λh0 _=>Kj 1 s.kind 3 (λh1 _=>Kp 2 he<|Kp 7 (SS (gD l (jf s.event l 0).toNat).it.day)<|Kf 0<|ch<|rr0<|(qg [] (gD l (jf s.event l 0).toNat).it.day).map aJ) λh1 _=>Kf 0 (Le.lsn<|rr0 []:Le _ (ah))
theorem KC(s:PStart)(l:lab)(hl:l.length<2^40):kP 77 [ax s,.ls (l.map aV)] (.ls ((lL s l).map aJ)):=by
  cases hi:aE (jf s.event l 0) 0
  · exact Pj s l hl hi
  · exact Px s l hl hi
noncomputable def tz(d o:PDeed)(days:lac):lac:=match lk o.it.kind&&rP o.it d.act d.item with|true=>(match sS o.it.kind with|true=>qg days o.it.day|false=>pw days o.it.day)|false=>days
noncomputable def mj(d:PDeed):lab->lac->lac
  |[],days=>days
  |o::r,days=>mj d r (tz d o days)
noncomputable def an(s:PStart)(d:PDeed)(l:lab):lac:=match aE d.it.kind 0||aE 6 d.it.kind with|true=>[]|false=>mj d l (lL (effS s d.it.start) l)
theorem Pk(s:PStart)(l:lab):(lL s l).length<=1048577:=by
  have h:=λd=>(vb [] d).len
  unfold lL
  cases ae s.kind 1<;>cases ae s.kind 3<;>cases aE (jf s.event l 0) 0<;>simp only[lN]<;>first|exact h _|omega
theorem ec(s:PStart)(d:PDeed)(l:lab)(hl:l.length<2^40):kP 48 [ax s,aV d,.ls (l.map aV)] (.ls ((an s d l).map aJ)):=by
  have hlk:=AE
  have hle1:∀k,sS k=true->Le (.func (.func 110) [] []) (sG k):=λk h=>Qr h
  have hle2:∀k,sS k=false->lk k=true->Le (.func (.func 112) [] []) (sG k):=λk h h2=>Ui h h2
  have hil:=Pk (effS s d.it.start) l
  have hin:∀b,(aE d.it.kind 0||aE 6 d.it.kind)=b->an s d l=match b with|true=>[]|false=>mj d l (lL (effS s d.it.start) l):=λb h=>by unfold an;rw[h]
  have hst:∀(o:PDeed)(r:lab)(days:lac),mj d (o::r) days=mj d r (tz d o days):=λo r days=>rfl
  have rr0 b' (h:((an s d l).map aJ)=b':=by first|(rw[hin true (by simp only[aS,ak,bS, *];try rfl)];rfl)|(rw[hin false (by simp only[aS,ak,bS, *];try rfl)];first|exact congrArg _ hj0.2|exact congrArg _ hj0.2.symm|(rw[hj0.2];rfl))):=h;let q1:=[av (dLx d)];let q2:=[av [iV s.kind,iV s.day,aj s.event]];let q3:=bc (bb 110) [] [];exact bH Tryz.func48<|Ka 7 d.it.kind 0 (λa _=>Mt a<|Mt a<|Mt a<|MV a<|Kf 1 (Le.lsn<|rr0 []:Le _ (ah))) λa _=>Kh 0 a<|Kh 0 a<|Kh 0 a<|Kw 0 a<|Mb (aE 6 d.it.kind) (λa=>have:=ap a;Kf 0 (Le.lsn<|rr0 []:Le _ (ah))) λa=>have:=aI a;Kp 3 (Il s d.it.start)<|Kp 0 (KC (effS s d.it.start) l hl)<|Kl 2 30 (ln aV l)<|Mg 0<|UY (0:Nat) l (lL (effS s d.it.start) l) [4,7,29,30,31] (λa _ c=>([bY 1 0 0 0,aW<|c.map aJ,aW<|l.map aV,nV l.length,nV a],[aZ 3 false 0 [av [iV s.kind,iV s.day,aj s.event]],aZ 28 false 0 [av (dLx d)]])) (λa c e=>(l).drop a=c/\e.length<=1048577/\mj d l (lL (effS s d.it.start) l)=mj d c e) (λ_ a _=>a.length) (et rfl<|by(exact⟨hil,rfl⟩)) λa c e f g=>Mc c (λa=>have c:=dm f.1 a;have hj0:=eM (J:=λa c=>c.length<=1048577/\mj d l (lL (effS s d.it.start) l)=mj d a c) (a:=e) a f.2;Kh 0 c<|Kf 1<|ch<|rr0<|e.map aJ) λc i j=>let m:=[av (dLx c)];have n:=dI f.1 j;have:=ap n;have p:=dl (enc:=aV) f.1 j;have hj0:=bT (J:=λa c=>c.length<=1048577/\mj d l (lL (effS s d.it.start) l)=mj d a c) (a:=e) j f.2;Kt 0 n<|Mx p<|Mg 2<|M3 (.efx true (AV.map 3)<|aw [aZ 3 false 0 q2,aZ 28 false 0 q1,aZ 28 false 0 m,AObj.map [AEnt.mk (iV 7) q3 0,AEnt.mk (iV 9) q3 1,AEnt.mk (iV 8) (bc (bb 112) [] []) 2] 3]) (jp rt rt rt ti) (jp (aY<|some<|aZ 28 false 0 m) (aY<|some<|aZ 28 false 0 q1) (aY<|some<|aZ 3 false 0 q2) ti) (Uh s d c)<|K1 2 (.look<|cX [sG c.it.kind,fZ<|lk c.it.kind]) (hlk c.it.kind)<|Kb 6 (lk c.it.kind) (λm=>Kt 0 m<|Kt 0 m<|Kt 0 m<|Kt 0 m<|Kt 0 m<|Kt 0 m<|Mp (OC c.it d.act d.item)<|MV m<|Mb (rP c.it d.act d.item) (λ_=>Ks 4 (sS c.it.kind) (λm=>Ml 53 (hle1 c.it.kind m)<|Mp (SR e c.it.day oA)<|Kl 1 59 (dQ a)<|K1 0 (.frz 2 [4,7,29,30,31]) (cL rt rt ti)<|Mf<|g (a+1) i (qg e c.it.day) (et (aH f.1 j)<|by exact⟨(vb _ _).len,by rw[hj0.2,hst];simp only[tz, *];rfl⟩)<|cC j) λn=>Ml 53 (hle2 c.it.kind n m)<|Mp (Ge e c.it.day oA)<|Kl 1 59 (dQ a)<|K1 0 (.frz 2 [4,7,29,30,31]) (cL rt rt ti)<|Mf<|g (a+1) i (pw e c.it.day) (et (aH f.1 j)<|by exact⟨(tV _ _).len,by rw[hj0.2,hst];simp only[tz, *];rfl⟩)<|cC j) λ_=>Kl 0 59 (dQ a)<|K1 0 (.frz 2 [4,7,29,30,31]) (cL rt rt ti)<|Mf<|g (a+1) i e (et (aH f.1 j)<|by exact⟨hj0.1,by rw[hj0.2,hst];simp only[tz,aS,ak,bS, *];try rfl⟩)<|cC j) λc=>Mh c<|Mh c<|Mh c<|Mh c<|Mh c<|Mh c<|My c<|Kl 1 59 (dQ a)<|K1 0 (.frz 2 [4,7,29,30,31]) (cL rt rt ti)<|Mf<|g (a+1) i e (et (aH f.1 j)<|by exact⟨hj0.1,by rw[hj0.2,hst];simp only[tz,aS,ak,bS, *];try rfl⟩)<|cC j
noncomputable abbrev bM(d:Int):AObj:=.row 1 false 0 [iV d]
noncomputable abbrev iq:AObj:=.row 1 false 0 [.nils]
noncomputable abbrev jH(i ep n:Nat):AObj:=.row 1 false 0 [.slice i ep 0 n none]
noncomputable abbrev bX(m:List (Int×PStart)):AObj:=.map (bj ax m 0) m.length
noncomputable abbrev bh(d:PDeed):AObj:=.row 28 false 0 [aV d]
noncomputable abbrev qf(ep:Nat)(l:lab):AObj:=.row 28 true ep (l.map aV)
def eJ:PStart:=⟨0,0,[]⟩
def al(m:List (Int×PStart))(k:Int):PStart:=(g0 k m).getD eJ
theorem ng(m:List (Int×PStart))(k:Int):fW (some (.agg [iV 0,iV 0,.str []])) false (bf false 1 [(0,1)] (iV k) (bj ax m 0) 0)=some (ax (al m k)):=by
  rw[AH]
  cases h:g0 k m<;>simp only[al,h,Option.getD]<;>rfl
theorem oB(m:List (Int×PStart))(a:PAct):qL (bj ax m 0) m.length (iV a.number) (.agg [iV a.start.kind,iV a.start.day,.str a.start.event]) (bf false 1 [(0,1)] (iV a.number) (bj ax m 0) 0)=some (bj ax (gk a.number a.start m) 0,(gk a.number a.start m).length):=C1 (f:=ax) a.number a.start m
def jt(l:lah)(m:List (Int×PStart)):List (Int×PStart):=l.foldl (λm a=>gk a.number a.start m) m
theorem iJ(s:PStart)(d:PDeed)(l:lab):NrmS (an s d l):=by
  have h1:∀(s:PStart),NrmS (lL s l):=λs=>by
    unfold lL
    cases ae s.kind 1<;>cases ae s.kind 3<;>cases aE (jf s.event l 0) 0<;>first|exact yR|exact vb _ _
  have h2:∀(r:lab)(days:lac),NrmS days->NrmS (mj d r days):=by
    intro r
    induction r with
    |nil=>intro days h;exact h
    | cons o r ih=>
      intro days h
      refine ih _ ?_
      unfold tz
      cases lk o.it.kind&&rP o.it d.act d.item<;>cases sS o.it.kind<;>first|exact h|exact vb _ _|exact tV _ _
  unfold an
  cases aE d.it.kind 0||aE 6 d.it.kind
  · exact h2 l _ (h1 _)
  · exact yR
theorem ma(s:PStart)(d:PDeed)(l:lab)(day:Int):kP 25 [.ls ((an s d l).map aJ),iV day] (.bool (gT (an s d l) day)):=by
  have hn:=iJ s d l
  have h:=ID (an s d l) day (mR hn.len (by decide))
  rwa[show ej (an s d l)=an s d l from(NX hn).symm]at h
noncomputable def SA(p:bZ)(d:PDeed):Bool:=ei d.it.for_ []||ei d.it.for_ p
noncomputable def xt(day:Int)(p:bZ)(m:List (Int×PStart))(ds:lab)(d:PDeed):Bool:=SA p d&&gT (an (al m d.act) d ds) day
noncomputable def rY(day:Int)(p:bZ)(m:List (Int×PStart))(ds l:lab):lab:=l.filter λd=>bg d.it.kind&&xt day p m ds d
theorem acg(d:PDeed)(ss:lac)(day:Int)(p:bZ)(m:List (Int×PStart))(hc:kP 25 [.ls (ss.map aJ),iV day] (.bool false)):kD 24 [aV d,.ls (ss.map aJ),.ptr 1 0 0 0,.ptr 0 0 0 0,.ptr 2 0 0 0] (aw [bM day,iY p,iq,bX m,bh d]) (.tuple []) (aw [bM day,iY p,iq,bX m,bh d]):=by
  exact eg Tryz.func24 λa=>Kb 5 (ei d.it.for_ (ByteArray.mk #[]).data.toList) (λb=>Mt b<|Mt b<|Mt b<|Mt b<|MV b<|Kp 2 hc<|K1 1 (.frz 5 []) (od rt (tM m.length 5<|ay (f:=ax) (λ_=>rfl) m 0) rt rt rt ti)<|Mf a) λb=>Kh 0 b<|Kh 0 b<|Kh 0 b<|Kh 0 b<|Kw 0 b<|Kb 0 (ei d.it.for_ p) (λb=>Kt 0 b<|Kt 0 b<|Mp hc<|MV b<|K1 0 (.frz 5 []) (od rt (tM m.length 5<|ay (f:=ax) (λ_=>rfl) m 0) rt rt rt ti)<|Mf a) λb=>Mh b<|Mh b<|My b<|K1 0 (.frz 5 []) (od rt (tM m.length 5<|ay (f:=ax) (λ_=>rfl) m 0) rt rt rt ti)<|Mf a
theorem acf(d:PDeed)(ss:lac)(day:Int)(p:bZ)(m:List (Int×PStart))(h1:ei d.it.for_ []=false)(h2:ei d.it.for_ p=false):kD 24 [aV d,.ls (ss.map aJ),.ptr 1 0 0 0,.ptr 0 0 0 0,.ptr 2 0 0 0] (aw [bM day,iY p,iq,bX m,bh d]) (.tuple []) (aw [bM day,iY p,iq,bX m,bh d]):=by
  exact eg Tryz.func24 λa=>Kh 5 h1<|Kh 0 h1<|Kh 0 h1<|Kh 0 h1<|Kh 0 h1<|Kw 0 h1<|Kh 0 h2<|Mh h2<|Mh h2<|My h2<|K1 0 (.frz 5 []) (od rt (tM m.length 5<|ay (f:=ax) (λ_=>rfl) m 0) rt rt rt ti)<|Mf a
theorem ace(d:PDeed)(ss:lac)(day:Int)(p:bZ)(m:List (Int×PStart))(hc:kP 25 [.ls (ss.map aJ),iV day] (.bool true))(h1:ei d.it.for_ []=true):kD 24 [aV d,.ls (ss.map aJ),.ptr 1 0 0 0,.ptr 0 0 0 0,.ptr 2 0 0 0] (aw [bM day,iY p,iq,bX m,bh d]) (.tuple []) (aw [bM day,iY p,jH 5 0 1,bX m,bh d,qf 0 [d]]):=by
  exact eg Tryz.func24 λa=>Kt 5 h1<|Mt h1<|Mt h1<|Mt h1<|Mt h1<|MV h1<|Kp 2 hc<|K1 6 (.ren [0,1,2,3,4,6,5] [3] []) (tN m.length<|ay (f:=ax) (λ_=>rfl) m 0)<|M1 (.frz 6 []) (Ik rt rt (tM m.length 6<|ay (f:=ax) (λ_=>rfl) m 0) rt rt rt ti)<|Mf a
theorem acd(d:PDeed)(ss:lac)(day:Int)(p:bZ)(m:List (Int×PStart))(hc:kP 25 [.ls (ss.map aJ),iV day] (.bool true))(h1:ei d.it.for_ []=false)(h2:ei d.it.for_ p=true):kD 24 [aV d,.ls (ss.map aJ),.ptr 1 0 0 0,.ptr 0 0 0 0,.ptr 2 0 0 0] (aw [bM day,iY p,iq,bX m,bh d]) (.tuple []) (aw [bM day,iY p,jH 5 0 1,bX m,bh d,qf 0 [d]]):=by
  exact eg Tryz.func24 λa=>Kh 5 h1<|Kh 0 h1<|Kh 0 h1<|Kh 0 h1<|Kh 0 h1<|Kw 0 h1<|Kt 0 h2<|Kt 0 h2<|Kt 0 h2<|Mp hc<|MV h2<|K1 5 (.ren [0,1,2,3,4,6,5] [3] []) (tN m.length<|ay (f:=ax) (λ_=>rfl) m 0)<|M1 (.frz 6 []) (Ik rt rt (tM m.length 6<|ay (f:=ax) (λ_=>rfl) m 0) rt rt rt ti)<|Mf a
theorem acb(d:PDeed)(ss:lac)(day:Int)(p:bZ)(m:List (Int×PStart))(ep n:Nat)(out:lab)(hc:kP 25 [.ls (ss.map aJ),iV day] (.bool false)):kD 24 [aV d,.ls (ss.map aJ),.ptr 1 0 0 0,.ptr 0 0 0 0,.ptr 2 0 0 0] (aw [bM day,iY p,jH 4 ep n,bX m,qf ep out,bh d]) (.tuple []) (aw [bM day,iY p,jH 4 ep n,bX m,qf ep out,bh d]):=by
  exact eg Tryz.func24 λa=>Kb 5 (ei d.it.for_ (ByteArray.mk #[]).data.toList) (λb=>Mt b<|Mt b<|Mt b<|Mt b<|MV b<|Kp 2 hc<|K1 1 (.frz 6 []) (Ik rt (tR 28 true ep 6<|aX yZ out) (tM m.length 6<|ay (f:=ax) (λ_=>rfl) m 0) rt rt rt ti)<|Mf a) λb=>Kh 0 b<|Kh 0 b<|Kh 0 b<|Kh 0 b<|Kw 0 b<|Kb 0 (ei d.it.for_ p) (λb=>Kt 0 b<|Kt 0 b<|Mp hc<|MV b<|K1 0 (.frz 6 []) (Ik rt (tR 28 true ep 6<|aX yZ out) (tM m.length 6<|ay (f:=ax) (λ_=>rfl) m 0) rt rt rt ti)<|Mf a) λb=>Mh b<|Mh b<|My b<|K1 0 (.frz 6 []) (Ik rt (tR 28 true ep 6<|aX yZ out) (tM m.length 6<|ay (f:=ax) (λ_=>rfl) m 0) rt rt rt ti)<|Mf a
theorem aca(d:PDeed)(ss:lac)(day:Int)(p:bZ)(m:List (Int×PStart))(ep n:Nat)(out:lab)(h1:ei d.it.for_ []=false)(h2:ei d.it.for_ p=false):kD 24 [aV d,.ls (ss.map aJ),.ptr 1 0 0 0,.ptr 0 0 0 0,.ptr 2 0 0 0] (aw [bM day,iY p,jH 4 ep n,bX m,qf ep out,bh d]) (.tuple []) (aw [bM day,iY p,jH 4 ep n,bX m,qf ep out,bh d]):=by
  exact eg Tryz.func24 λa=>Kh 5 h1<|Kh 0 h1<|Kh 0 h1<|Kh 0 h1<|Kh 0 h1<|Kw 0 h1<|Kh 0 h2<|Mh h2<|Mh h2<|My h2<|K1 0 (.frz 6 []) (Ik rt (tR 28 true ep 6<|aX yZ out) (tM m.length 6<|ay (f:=ax) (λ_=>rfl) m 0) rt rt rt ti)<|Mf a
theorem ab9(d:PDeed)(ss:lac)(day:Int)(p:bZ)(m:List (Int×PStart))(ep n:Nat)(out:lab)(hn:n=out.length)(hn2:n<2^20)(hc:kP 25 [.ls (ss.map aJ),iV day] (.bool true))(h1:ei d.it.for_ []=true):kD 24 [aV d,.ls (ss.map aJ),.ptr 1 0 0 0,.ptr 0 0 0 0,.ptr 2 0 0 0] (aw [bM day,iY p,jH 4 ep n,bX m,qf ep out,bh d]) (.tuple []) (aw [bM day,iY p,jH 4 (ep+1) (n+1),bX m,qf (ep+1) (out++[d]),bh d]):=by
  exact eg Tryz.func24 λa=>Kt 5 h1<|Mt h1<|Mt h1<|Mt h1<|Mt h1<|MV h1<|Kp 2 hc<|K1 4 .app (cL (aY ep) (by(rw[lM];exact hn):n=(out.map aV).length) (by exact c8 (m:=2^21) (by omega) (by decide) (by decide):small (n+1) 392=true))<|M1 (.obj 4<|aZ 28 true (ep+1)<|(out++[d]).map aV) (congrArg (aZ 28 true<|ep+1)<|cO (f:=aV) (l:=out) (ws:=[d]))<|K1 0 (.frz 6 []) (Ik rt (tR 28 true (ep+1) 6<|aX yZ<|out++[d]) (tM m.length 6<|ay (f:=ax) (λ_=>rfl) m 0) rt rt rt ti)<|Mf a
theorem ab8(d:PDeed)(ss:lac)(day:Int)(p:bZ)(m:List (Int×PStart))(ep n:Nat)(out:lab)(hn:n=out.length)(hn2:n<2^20)(hc:kP 25 [.ls (ss.map aJ),iV day] (.bool true))(h1:ei d.it.for_ []=false)(h2:ei d.it.for_ p=true):kD 24 [aV d,.ls (ss.map aJ),.ptr 1 0 0 0,.ptr 0 0 0 0,.ptr 2 0 0 0] (aw [bM day,iY p,jH 4 ep n,bX m,qf ep out,bh d]) (.tuple []) (aw [bM day,iY p,jH 4 (ep+1) (n+1),bX m,qf (ep+1) (out++[d]),bh d]):=by
  exact eg Tryz.func24 λa=>Kh 5 h1<|Kh 0 h1<|Kh 0 h1<|Kh 0 h1<|Kh 0 h1<|Kw 0 h1<|Kt 0 h2<|Kt 0 h2<|Kt 0 h2<|Mp hc<|MV h2<|K1 3 .app (cL (aY ep) (by(rw[lM];exact hn):n=(out.map aV).length) (by exact c8 (m:=2^21) (by omega) (by decide) (by decide):small (n+1) 392=true))<|M1 (.obj 4<|aZ 28 true (ep+1)<|(out++[d]).map aV) (congrArg (aZ 28 true<|ep+1)<|cO (f:=aV) (l:=out) (ws:=[d]))<|K1 0 (.frz 6 []) (Ik rt (tR 28 true (ep+1) 6<|aX yZ<|out++[d]) (tM m.length 6<|ay (f:=ax) (λ_=>rfl) m 0) rt rt rt ti)<|Mf a
theorem XA{day:Int}{p:bZ}{m:List (Int×PStart)}{ds:lab}{d:PDeed}(h:xt day p m ds d=false):kP 25 [.ls ((an (al m d.act) d ds).map aJ),iV day] (.bool false)\/(ei d.it.for_ []=false/\ei d.it.for_ p=false):=by
  unfold xt SA at h
  have hz:=ma (al m d.act) d ds day
  cases q:gT (an (al m d.act) d ds) day with
  |false=>rw[q]at hz;exact .inl hz
  |true=>rw[q,Bool.and_true,GV]at h;exact .inr h
theorem Rw{day:Int}{p:bZ}{m:List (Int×PStart)}{ds:lab}{d:PDeed}(h:xt day p m ds d=true):kP 25 [.ls ((an (al m d.act) d ds).map aJ),iV day] (.bool true)/\(ei d.it.for_ []=true\/(ei d.it.for_ []=false/\ei d.it.for_ p=true)):=by
  unfold xt SA at h
  obtain⟨h1,h2⟩:=jj.1 h
  have hz:=ma (al m d.act) d ds day
  rw[h2]at hz
  refine⟨hz,?_⟩
  cases q:ei d.it.for_ []with
  |true=>exact .inl rfl
  |false=>rw[q,Bool.false_or]at h1;exact .inr ⟨rfl,h1⟩
theorem aaH(day:Int)(p:bZ)(m:List (Int×PStart))(ds:lab)(d:PDeed)(hb:xt day p m ds d=false):kD 24 [aV d,.ls ((an (al m d.act) d ds).map aJ),.ptr 1 0 0 0,.ptr 0 0 0 0,.ptr 2 0 0 0] (aw [bM day,iY p,iq,bX m,bh d]) (.tuple []) (aw [bM day,iY p,iq,bX m,bh d]):=by
  rcases XA hb with h|⟨h1,h2⟩
  · exact acg d _ day p m h
  · exact acf d _ day p m h1 h2
theorem ack(day:Int)(p:bZ)(m:List (Int×PStart))(ds:lab)(d:PDeed)(hb:By (xt day p m ds d) false):kD 24 [aV d,.ls ((an (al m d.act) d ds).map aJ),.ptr 1 0 0 0,.ptr 0 0 0 0,.ptr 2 0 0 0] (aw [bM day,iY p,iq,bX m,bh d]) (.tuple []) (aw [bM day,iY p,iq,bX m,bh d]):=aaH day p m ds d hb
theorem acj(day:Int)(p:bZ)(m:List (Int×PStart))(ds:lab)(d:PDeed)(hb:By (xt day p m ds d) true):kD 24 [aV d,.ls ((an (al m d.act) d ds).map aJ),.ptr 1 0 0 0,.ptr 0 0 0 0,.ptr 2 0 0 0] (aw [bM day,iY p,iq,bX m,bh d]) (.tuple []) (aw [bM day,iY p,jH 5 0 1,bX m,bh d,qf 0 [d]]):=by
  obtain⟨h,h1|⟨h1,h2⟩⟩:=Rw hb
  · exact ace d _ day p m h h1
  · exact acd d _ day p m h h1 h2
theorem aci(day:Int)(p:bZ)(m:List (Int×PStart))(ds:lab)(d:PDeed)(ep n:Nat)(out:lab)(hb:By (xt day p m ds d) false):kD 24 [aV d,.ls ((an (al m d.act) d ds).map aJ),.ptr 1 0 0 0,.ptr 0 0 0 0,.ptr 2 0 0 0] (aw [bM day,iY p,jH 4 ep n,bX m,qf ep out,bh d]) (.tuple []) (aw [bM day,iY p,jH 4 ep n,bX m,qf ep out,bh d]):=by
  rcases XA hb with h|⟨h1,h2⟩
  · exact acb d _ day p m ep n out h
  · exact aca d _ day p m ep n out h1 h2
theorem ach(day:Int)(p:bZ)(m:List (Int×PStart))(ds:lab)(d:PDeed)(ep n:Nat)(out:lab)(hb:By (xt day p m ds d) true)(hn:n=out.length)(hn2:n<2^20):kD 24 [aV d,.ls ((an (al m d.act) d ds).map aJ),.ptr 1 0 0 0,.ptr 0 0 0 0,.ptr 2 0 0 0] (aw [bM day,iY p,jH 4 ep n,bX m,qf ep out,bh d]) (.tuple []) (aw [bM day,iY p,jH 4 (ep+1) (n+1),bX m,qf (ep+1) (out++[d]),bh d]):=by
  obtain⟨h,h1|⟨h1,h2⟩⟩:=Rw hb
  · exact ab9 d _ day p m ep n out hn hn2 h h1
  · exact ab8 d _ day p m ep n out hn hn2 h h1 h2
theorem HQ{day:Int}{p:bZ}{m:List (Int×PStart)}{ds r:lab}{d:PDeed}(h:bg d.it.kind=false):rY day p m ds (d::r)=rY day p m ds r:=by simp only[rY,List.filter_cons,h,zy];rfl
theorem Dj{day:Int}{p:bZ}{m:List (Int×PStart)}{ds r:lab}{d:PDeed}(h:xt day p m ds d=false):rY day p m ds (d::r)=rY day p m ds r:=by simp only[rY,List.filter_cons,h,qD];rfl
theorem G9{day:Int}{p:bZ}{m:List (Int×PStart)}{ds r:lab}{d:PDeed}(h:bg d.it.kind=true)(h2:xt day p m ds d=true):rY day p m ds (d::r)=d::rY day p m ds r:=by simp only[rY,List.filter_cons,h,h2];rfl
structure OnA(day:Int)(p:bZ)(m:List (Int×PStart))(ds r:lab):Prop where
  f:rY day p m ds ds=rY day p m ds r
structure OnR(day:Int)(p:bZ)(m:List (Int×PStart))(ds r:lab)(ep n:Nat)(out:lab):Prop where
  len:n=out.length
  ep:ep+1=out.length
  small:out.length+r.length<=ds.length
  f:rY day p m ds ds=out++rY day p m ds r
theorem OnA.no{day:Int}{p:bZ}{m:List (Int×PStart)}{ds r:lab}{d:PDeed}(h:OnA day p m ds (d::r))(ha:bg d.it.kind=false):OnA day p m ds r:=⟨by rw[h.f,HQ ha]⟩
theorem OnA.nil{day:Int}{p:bZ}{m:List (Int×PStart)}{ds r:lab}{d:PDeed}(h:OnA day p m ds (d::r))(hb:xt day p m ds d=false):OnA day p m ds r:=⟨by rw[h.f,Dj hb]⟩
theorem OnA.new{day:Int}{p:bZ}{m:List (Int×PStart)}{ds r:lab}{d:PDeed}{n:Nat}(h:OnA day p m ds (d::r))(hl:(d::r).length<=ds.length)(ha:bg d.it.kind=true)(hb:xt day p m ds d=true)(hn:n=1):OnR day p m ds r 0 n [d]:=⟨hn,rfl,by simp only[lC,lN]at *;omega,by rw[h.f,G9 ha hb];rfl⟩
theorem OnR.no{day:Int}{p:bZ}{m:List (Int×PStart)}{ds r:lab}{d:PDeed}{ep n:Nat}{out:lab}(h:OnR day p m ds (d::r) ep n out)(ha:bg d.it.kind=false):OnR day p m ds r ep n out:=⟨h.len,h.ep,by have:=h.small;simp only[lC]at this;omega,by rw[h.f,HQ ha]⟩
theorem OnR.nil{day:Int}{p:bZ}{m:List (Int×PStart)}{ds r:lab}{d:PDeed}{ep n:Nat}{out:lab}(h:OnR day p m ds (d::r) ep n out)(hb:xt day p m ds d=false):OnR day p m ds r ep n out:=⟨h.len,h.ep,by have:=h.small;simp only[lC]at this;omega,by rw[h.f,Dj hb]⟩
theorem OnR.new{day:Int}{p:bZ}{m:List (Int×PStart)}{ds r:lab}{d:PDeed}{ep n k:Nat}{out:lab}(h:OnR day p m ds (d::r) ep n out)(ha:bg d.it.kind=true)(hb:xt day p m ds d=true)(hk:k=n+1):OnR day p m ds r (ep+1) k (out++[d]):=by
  have:=h.len;have:=h.ep;have:=h.small
  refine⟨?_,?_,?_,by rw[h.f,G9 ha hb,iQ];rfl⟩<;>simp only[lA,lC,lN]at * <;>omega
theorem OnR.done{day:Int}{p:bZ}{m:List (Int×PStart)}{ds:lab}{ep n:Nat}{out:lab}(h:OnR day p m ds [] ep n out):ep=(rY day p m ds ds).length -1/\n=(rY day p m ds ds).length/\out=rY day p m ds ds:=by
  have e:rY day p m ds ds=out:=by rw[h.f];exact eu _
  have:=h.len;have:=h.ep
  rw[e];exact⟨by omega,by omega,rfl⟩
theorem JN{α:Type}{l r:List α}{j:Nat}{a:α}(h:l.drop j=a::r):(a::r).length<=l.length:=by rw[<-h,zw];omega
theorem XB{day:Int}{p:bZ}{m:List (Int×PStart)}{ds r:lab}{d:PDeed}(h:rY day p m ds (d::r)=[])(ha:bg d.it.kind=true):xt day p m ds d=false:=by
  cases q:xt day p m ds d with
  |false=>rfl
  |true=>rw[G9 ha q]at h;cases h
theorem Zf(gs:lal)(L:lah)(ds:lab)(day:Int)(p:bZ)(hL:L.length<10000)(hd:ds.length<100000)(ha:kP 47 [.ls (gs.map am)] (.ls (L.map aa)))(hi:kP 35 [.ls (gs.map am)] (.ls (ds.map aV)))(hE:rY day p (jt L []) ds ds=[]):
    kD 23 [.ls (gs.map am),.func (.func 24) [] [.ptr 1 0 0 0,.ptr 0 0 0 0,.ptr 2 0 0 0]] (aw [bM day,iY p,iq]) (.tuple []) (aw [bM day,iY p,iq]):=by
  have hlk:=ng
  have hup:=oB
  let q1:=[iV day];exact eg Tryz.func23 λa=>Kp 2 ha<|Kl 0 13 (ln aa L)<|Mg 0<|OV aa L ([]:List (Int×PStart)) [0,1,4,12,13,14] (λa _ b=>([aW<|gs.map am,bc (bb 24) [] [bY 1 0 0 0,bY 0 0 0 0,bY 2 0 0 0],AV.map 3,aW<|L.map aa,nV L.length,nV a],[aZ 1 false 0 [iV day],aZ 1 false 0 [aj p],aZ 1 false 0 [ah],AObj.map (bj ax b 0) b.length])) (λa b=>jt L []=jt a b) (by rfl) (λ_ _ b _ _ _ c d=>Kh 0 c<|Kp 0 hi<|Kl 2 27 (ln aV ds)<|Mg 0<|UY (0:Nat) ds () [1,4,7,26,27,28] (λa _ _=>([bc (bb 24) [] [bY 1 0 0 0,bY 0 0 0 0,bY 2 0 0 0],AV.map 3,aW<|ds.map aV,aW<|ds.map aV,nV ds.length,nV a],[aZ 1 false 0 [iV day],aZ 1 false 0 [aj p],aZ 1 false 0 [ah],AObj.map (bj ax b 0) b.length])) (λa c _=>(ds).drop a=c/\rY day p b ds c=[]) (λ_ a _=>a.length) (et rfl<|by(rw[<-show jt L []=b from d];exact hE)) λc d e f g=>Mc d (λc=>have d:=dm f.1 c;have:=eM (J:=λa _=>rY day p b ds a=[]) (a:=e) c f.2;Kh 0 d<|M1 (.frz 3 []) (jp rt rt rt ti)<|Mf a) λa d h=>let i:=[av (dLx a)];have j:=dI f.1 h;have:=ap j;have k:=dl (enc:=aV) f.1 h;have e:=bT (J:=λa _=>rY day p b ds a=[]) (a:=e) h f.2;Kt 0 j<|Mx k<|Kp 5 (gP a.it.kind)<|Mb (bg a.it.kind) (λ_=>K1 4 (.look<|av [iV (al b a.act).kind,iV (al b a.act).day,aj (al b a.act).event]) (hlk b a.act)<|Kp 1 (ec (al b a.act) a ds<|by(omega))<|M3 (.efx true (cX [])<|aw [aZ 1 false 0 q1,aZ 1 false 0 [aj p],aZ 1 false 0 [ah],AObj.map (bj ax b 0) b.length,aZ 28 false 0 i]) (od rt (tM b.length 5<|ay (f:=ax) (λ_=>rfl) b 0) rt rt rt ti) (od (aY<|some<|aZ 28 false 0 i) (aY<|some<|AObj.map (bj ax b 0) b.length) (aY<|some<|aZ 1 false 0 [ah]) (aY<|some<|aZ 1 false 0 [aj p]) (aY<|some<|aZ 1 false 0 q1) ti) (aaH day p b ds a<|by exact XB e (by assumption))<|Kl 0 46 (dQ c)<|K1 0 (.frz 4 [1,4,7,26,27,28]) (qh (tM b.length 4<|ay (f:=ax) (λ_=>rfl) b 0) rt rt rt ti)<|Mf<|g (c+1) d () (et (aH f.1 h)<|by(have z:=e;rw[Dj (XB z (by assumption))]at z;exact z))<|cC h) λ_=>Kl 0 46 (dQ c)<|K1 0 (.frz 4 [1,4,7,26,27,28]) (qh (tM b.length 4<|ay (f:=ax) (λ_=>rfl) b 0) rt rt rt ti)<|Mf<|g (c+1) d () (et (aH f.1 h)<|by(have z:=e;rw[HQ (by assumption)]at z;exact z))<|cC h) λa _ b _ _ c d e _ f _ g h=>Kt 0 f<|Mx g<|K1 7 (.upd (bj ax (gk c.number c.start b) 0) (gk c.number c.start b).length) (hup b c)<|Kl 0 23 (dQ a)<|K1 0 (.frz 4 [0,1,4,12,13,14]) (qh (tM (gk c.number c.start b).length 4<|ay (f:=ax) (λ_=>rfl) (gk c.number c.start b) 0) rt rt rt ti)<|Mf<|e (gk c.number c.start b)<|by exact h
def IR(gs:lal)(L:lah)(day:Int)(p:bZ)(x0:Nat×lah×List (Int×PStart)):Prop:=(L).drop x0.1=x0.2.1/\jt L []=jt x0.2.1 x0.2.2
noncomputable def yV(gs:lal)(L:lah)(day:Int)(p:bZ)(x0:Nat×lah×List (Int×PStart)):laa×lai:=([AV.ls (gs.map am),AV.func (Fn.func 24) [] [AV.ptr 1 0 0 0,AV.ptr 0 0 0 0,AV.ptr 2 0 0 0],AV.map 3,AV.ls (L.map aa),nV L.length,nV x0.1],[AObj.row 1 false 0 [iV day],AObj.row 1 false 0 [AV.str p],AObj.row 1 false 0 [AV.nils],AObj.map (bj ax x0.2.2 0) x0.2.2.length])
def IP(ds:lab)(day:Int)(p:bZ)(x0:Nat×lah×List (Int×PStart))(x1:Nat×lab×Unit):Prop:=(ds).drop x1.1=x1.2.1/\OnA day p x0.2.2 ds x1.2.1
noncomputable def yK(ds:lab)(day:Int)(p:bZ)(x0:Nat×lah×List (Int×PStart))(x1:Nat×lab×Unit):laa×lai:=([AV.func (Fn.func 24) [] [AV.ptr 1 0 0 0,AV.ptr 0 0 0 0,AV.ptr 2 0 0 0],AV.map 3,AV.ls (ds.map aV),AV.ls (ds.map aV),nV ds.length,nV x1.1],[AObj.row 1 false 0 [iV day],AObj.row 1 false 0 [AV.str p],AObj.row 1 false 0 [AV.nils],AObj.map (bj ax x0.2.2 0) x0.2.2.length])
def IM(ds:lab)(day:Int)(p:bZ)(x0:Nat×lah×List (Int×PStart))(x1:Nat×lab×Nat×Nat×lab):Prop:=(ds).drop x1.1=x1.2.1/\OnR day p x0.2.2 ds x1.2.1 x1.2.2.1 x1.2.2.2.1 x1.2.2.2.2
noncomputable def IL(ds:lab)(day:Int)(p:bZ)(x0:Nat×lah×List (Int×PStart))(x1:Nat×lab×Nat×Nat×lab):laa×lai:=([AV.func (Fn.func 24) [] [AV.ptr 1 0 0 0,AV.ptr 0 0 0 0,AV.ptr 2 0 0 0],AV.map 3,AV.ls (ds.map aV),AV.ls (ds.map aV),nV ds.length,nV x1.1],[AObj.row 1 false 0 [iV day],AObj.row 1 false 0 [AV.str p],AObj.row 1 false 0 [AV.slice 4 x1.2.2.1 0 x1.2.2.2.1 none],AObj.map (bj ax x0.2.2 0) x0.2.2.length,AObj.row 28 true x1.2.2.1 (x1.2.2.2.2.map aV)])
theorem Ze(gs:lal)(L:lah)(ds:lab)(day:Int)(p:bZ)(hL:L.length<10000)(hd:ds.length<100000)(ha:kP 47 [.ls (gs.map am)] (.ls (L.map aa)))(hi:kP 35 [.ls (gs.map am)] (.ls (ds.map aV)))(hE:rY day p (jt L []) ds ds≠[]):
    kD 23 [.ls (gs.map am),.func (.func 24) [] [.ptr 1 0 0 0,.ptr 0 0 0 0,.ptr 2 0 0 0]] (aw [bM day,iY p,iq]) (.tuple []) (aw [bM day,iY p,jH 3 ((rY day p (jt L []) ds ds).length -1) (rY day p (jt L []) ds ds).length,qf ((rY day p (jt L []) ds ds).length -1) (rY day p (jt L []) ds ds)]):=by
  have hlk:=ng
  have hup:=oB
  let q5:=[iV day];let q8:=cX [];let q10:=some (aZ 1 false 0 [aj p]);let q11:=some (aZ 1 false 0 q5);exact Jl Tryz.func23<|Kp 2 ha<|Kl 0 13 (ln aa L)<|Mg 0<|ML (Nat×lah×List (Int×PStart)) [0,1,4,12,13,14] (yV gs L day p) (IR gs L day p) (λa=>a.2.1.length) (0,L,[]) (aY<|yV gs L day p (0,L,[])) (et (rfl:List.drop 0 (L)=L) (by rfl:(jt L []=jt L []))) λa b c=>let d:=some<|AObj.map (bj ax a.2.2 0) a.2.2.length;Mi (λa b=>jt L []=jt a b) aa b (λ_ b c=>Kh 0 b<|Kp 0 hi<|Kl 2 27 (ln aV ds)<|Mg 0<|MM (Nat×lab×Unit) (Nat×lab×Nat×Nat×lab) [1,4,7,26,27,28] (yK ds day p a) (IL ds day p a) (IP ds day p a) (IM ds day p a) (λa=>a.2.1.length) (λa=>a.2.1.length) (.inl (0,ds,())) (aY<|yK ds day p a (0,ds,())) (et (rfl:List.drop 0 (ds)=ds) (by(exact⟨rfl⟩):(OnA day p a.2.2 ds ds))) (λb e f=>Mc b.2.1 (λd=>have f:=dm e.1 d;have b:=eM (J:=λb _=>OnA day p a.2.2 ds b) (a:=b.2.2) d e.2;Kh 0 f<|Mw .abs (by exact hE (by rw[show jt L []=a.2.2 from c];exact b.f):False)) λc g h=>let i:=[av (dLx c)];let j:=av [iV (al a.2.2 c.act).kind,iV (al a.2.2 c.act).day,aj (al a.2.2 c.act).event];have k:=dI e.1 h;have:=ap k;have l:=dl (enc:=aV) e.1 h;have m:=bT (J:=λb _=>OnA day p a.2.2 ds b) (a:=b.2.2) h e.2;Kt 0 k<|Mx l<|Kp 5 (gP c.it.kind)<|Mb (bg c.it.kind) (λ_=>Ms (xt day p a.2.2 ds c) (λd=>K1 4 (.look j) (hlk a.2.2 c.act)<|Kp 1 (ec (al a.2.2 c.act) c ds<|by(omega))<|M3 (.efx false q8<|aw [aZ 1 false 0 q5,aZ 1 false 0 [aj p],aZ 1 false 0 [aM 5 0 0 1 none],AObj.map (bj ax a.2.2 0) a.2.2.length,aZ 28 false 0 i,aZ 28 true 0 i]) (od rt (tM a.2.2.length 5<|ay (f:=ax) (λ_=>rfl) a.2.2 0) rt rt rt ti) ti (acj day p a.2.2 ds c d)<|Kl 0 46 (dQ b.1)<|K1 0 (.ren [0,1,2,3,5,4] [3] [1,4,7,26,27,28]) (tN a.2.2.length<|ay (f:=ax) (λ_=>rfl) a.2.2 0)<|M1 (.frz 5 [1,4,7,26,27,28]) (od rt (tM a.2.2.length 5<|ay (f:=ax) (λ_=>rfl) a.2.2 0) rt rt rt ti)<|Mf<|f (.inr (b.1+1,g,(0,1,[c]))) (et (aH e.1 h) (by exact m.new (JN (e.1.trans h)) (by assumption) (by assumption) rfl:(OnR day p a.2.2 ds g (0:Nat) (1:Nat) [c])))<|cC h) λk=>K1 4 (.look j) (hlk a.2.2 c.act)<|Kp 1 (ec (al a.2.2 c.act) c ds<|by(omega))<|M3 (.efx true q8<|aw [aZ 1 false 0 q5,aZ 1 false 0 [aj p],aZ 1 false 0 [ah],AObj.map (bj ax a.2.2 0) a.2.2.length,aZ 28 false 0 i]) (od rt (tM a.2.2.length 5<|ay (f:=ax) (λ_=>rfl) a.2.2 0) rt rt rt ti) (od (aY<|some<|aZ 28 false 0 i) (aY d) (aY<|some<|aZ 1 false 0 [ah]) (aY q10) (aY q11) ti) (ack day p a.2.2 ds c k)<|Kl 0 46 (dQ b.1)<|K1 0 (.frz 4 [1,4,7,26,27,28]) (qh (tM a.2.2.length 4<|ay (f:=ax) (λ_=>rfl) a.2.2 0) rt rt rt ti)<|Mf<|f (.inl (b.1+1,g,())) (et (aH e.1 h) (by exact m.nil (by assumption):(OnA day p a.2.2 ds g)))<|cC h) λ_=>Kl 0 46 (dQ b.1)<|K1 0 (.frz 4 [1,4,7,26,27,28]) (qh (tM a.2.2.length 4<|ay (f:=ax) (λ_=>rfl) a.2.2 0) rt rt rt ti)<|Mf<|f (.inl (b.1+1,g,())) (et (aH e.1 h) (by exact m.no (by assumption):(OnA day p a.2.2 ds g)))<|cC h) λb e f=>let g:=[aM 4 b.2.2.1 0 b.2.2.2.1 none];let h:=List.map aV b.2.2.2.2;Mc b.2.1 (λd=>have f:=dm e.1 d;have d:=eM (J:=λb c=>OnR day p a.2.2 ds b c.1 c.2.1 c.2.2) (a:=b.2.2) d e.2;Kh 0 f<|M2 (.ren [0,1,2,4,3] [4,3] []) (tS 28 true b.2.2.1<|aX yZ b.2.2.2.2) (tN a.2.2.length<|ay (f:=ax) (λ_=>rfl) a.2.2 0)<|M1 (.frz 4 []) (qh (tR 28 true b.2.2.1 4<|aX yZ b.2.2.2.2) rt rt rt ti)<|Mf<|et (aY q8) (by(have q:=d.done;rw[show jt L []=a.2.2 from c,q.1,q.2.1,q.2.2]):(aw [AObj.row 1 false 0 [iV day],AObj.row 1 false 0 [AV.str p],AObj.row 1 false 0 [AV.slice 3 b.2.2.1 0 b.2.2.2.1 none],AObj.row 28 true b.2.2.1 (b.2.2.2.2.map aV)])=(aw [bM day,iY p,jH 3 ((rY day p (jt L []) ds ds).length -1) (rY day p (jt L []) ds ds).length,qf ((rY day p (jt L []) ds ds).length -1) (rY day p (jt L []) ds ds)]))) λc i j=>let k:=[av (dLx c)];let l:=av [iV (al a.2.2 c.act).kind,iV (al a.2.2 c.act).day,aj (al a.2.2 c.act).event];have m:=dI e.1 j;have:=ap m;have n:=dl (enc:=aV) e.1 j;have o:=bT (J:=λb c=>OnR day p a.2.2 ds b c.1 c.2.1 c.2.2) (a:=b.2.2) j e.2;Kt 0 m<|Mx n<|Kp 5 (gP c.it.kind)<|Mb (bg c.it.kind) (λ_=>Ms (xt day p a.2.2 ds c) (λd=>K1 4 (.look l) (hlk a.2.2 c.act)<|Kp 1 (ec (al a.2.2 c.act) c ds<|by(omega))<|M3 (.efx false q8<|aw [aZ 1 false 0 q5,aZ 1 false 0 [aj p],aZ 1 false 0 [aM 4 (b.2.2.1+1) 0 (b.2.2.2.1+1) none],AObj.map (bj ax a.2.2 0) a.2.2.length,aZ 28 true (b.2.2.1+1)<|(b.2.2.2.2++[c]).map aV,aZ 28 false 0 k]) (Ik rt (tR 28 true b.2.2.1 6<|aX yZ b.2.2.2.2) (tM a.2.2.length 6<|ay (f:=ax) (λ_=>rfl) a.2.2 0) rt rt rt ti) ti (ach day p a.2.2 ds c b.2.2.1 b.2.2.2.1 b.2.2.2.2 d (by exact o.len)<|by(have z:=o.small;have z2:=o.len;simp only[lC]at z;omega))<|Kl 0 46 (dQ b.1)<|K1 0 (.frz 5 [1,4,7,26,27,28]) (od (tR 28 true (b.2.2.1+1) 5<|aX yZ<|b.2.2.2.2++[c]) (tM a.2.2.length 5<|ay (f:=ax) (λ_=>rfl) a.2.2 0) rt rt rt ti)<|Mf<|f (.inr (b.1+1,i,(b.2.2.1+1,b.2.2.2.1+1,b.2.2.2.2++[c]))) (et (aH e.1 j) (by exact o.new (by assumption) (by assumption) rfl:(OnR day p a.2.2 ds i (b.2.2.1+1) (b.2.2.2.1+1) (b.2.2.2.2++[c]))))<|cC j) λm=>K1 4 (.look l) (hlk a.2.2 c.act)<|Kp 1 (ec (al a.2.2 c.act) c ds<|by(omega))<|M3 (.efx true q8<|aw [aZ 1 false 0 q5,aZ 1 false 0 [aj p],aZ 1 false 0 g,AObj.map (bj ax a.2.2 0) a.2.2.length,aZ 28 true b.2.2.1 h,aZ 28 false 0 k]) (Ik rt (tR 28 true b.2.2.1 6<|aX yZ b.2.2.2.2) (tM a.2.2.length 6<|ay (f:=ax) (λ_=>rfl) a.2.2 0) rt rt rt ti) (Ik (aY<|some<|aZ 28 false 0 k) (aY<|some<|aZ 28 true b.2.2.1 h) (aY d) (aY<|some<|aZ 1 false 0 g) (aY q10) (aY q11) ti) (aci day p a.2.2 ds c b.2.2.1 b.2.2.2.1 b.2.2.2.2 m)<|Kl 0 46 (dQ b.1)<|K1 0 (.frz 5 [1,4,7,26,27,28]) (od (tR 28 true b.2.2.1 5<|aX yZ b.2.2.2.2) (tM a.2.2.length 5<|ay (f:=ax) (λ_=>rfl) a.2.2 0) rt rt rt ti)<|Mf<|f (.inr (b.1+1,i,(b.2.2.1,b.2.2.2.1,b.2.2.2.2))) (et (aH e.1 j) (by exact o.nil (by assumption):(OnR day p a.2.2 ds i b.2.2.1 b.2.2.2.1 b.2.2.2.2)))<|cC j) λ_=>Kl 0 46 (dQ b.1)<|K1 0 (.frz 5 [1,4,7,26,27,28]) (od (tR 28 true b.2.2.1 5<|aX yZ b.2.2.2.2) (tM a.2.2.length 5<|ay (f:=ax) (λ_=>rfl) a.2.2 0) rt rt rt ti)<|Mf<|f (.inr (b.1+1,i,(b.2.2.1,b.2.2.2.1,b.2.2.2.2))) (et (aH e.1 j) (by exact o.no (by assumption):(OnR day p a.2.2 ds i b.2.2.1 b.2.2.2.1 b.2.2.2.2)))<|cC j) λd e f g _ h i=>Kt 0 g<|Mx h<|K1 7 (.upd (bj ax (gk d.number d.start a.2.2) 0) (gk d.number d.start a.2.2).length) (hup a.2.2 d)<|Kl 0 23 (dQ a.1)<|K1 0 (.frz 4 [0,1,4,12,13,14]) (qh (tM (gk d.number d.start a.2.2).length 4<|ay (f:=ax) (λ_=>rfl) (gk d.number d.start a.2.2) 0) rt rt rt ti)<|Mf<|c (a.1+1,e,gk d.number d.start a.2.2) (et (aH b.1 f) (by exact i:(jt L []=jt e (gk d.number d.start a.2.2))))<|cC f
noncomputable def onL(day:Int)(p:bZ)(L:lah)(ds:lab):lab:=rY day p (jt L []) ds ds
theorem aaF(gs:lal)(day:Int)(p:bZ)(hc:kD 23 [.ls (gs.map am),.func (.func 24) [] [.ptr 1 0 0 0,.ptr 0 0 0 0,.ptr 2 0 0 0]] (aw [bM day,iY p,iq]) (.tuple []) (aw [bM day,iY p,iq])):kP 9 [iV day,.str p,.ls (gs.map am)] (.ls (([]:lab).map aV)):=by
  exact bH Tryz.func9<|Ke 5 hc<|Kf 1 bI
theorem aaE(gs:lal)(day:Int)(p:bZ)(X:lab)(k:Nat)(hz:0<X.length)(hb:X.length<2^40)(hc:kD 23 [.ls (gs.map am),.func (.func 24) [] [.ptr 1 0 0 0,.ptr 0 0 0 0,.ptr 2 0 0 0]] (aw [bM day,iY p,iq]) (.tuple []) (aw [bM day,iY p,jH 3 k X.length,qf k X])):kP 9 [iV day,.str p,.ls (gs.map am)] (.ls (X.map aV)):=by
  let q:=List.map aV X;exact bH Tryz.func9<|Ke 5 hc<|Mg 1<|M2 (.fsl 0 [] 6 q) ti (cL (aY k) (tA aV X X.length rfl)<|aX yZ X)<|Ml 6 (fe q false<|aX yZ X)<|Mf<|bA<|aW q
theorem aaG(gs:lal)(L:lah)(ds:lab)(day:Int)(p:bZ)(hL:L.length<10000)(hd:ds.length<100000)(ha:kP 47 [.ls (gs.map am)] (.ls (L.map aa)))(hi:kP 35 [.ls (gs.map am)] (.ls (ds.map aV))):kP 9 [iV day,.str p,.ls (gs.map am)] (.ls ((onL day p L ds).map aV)):=by
  by_cases hE:onL day p L ds=[]
  · rw[hE];exact aaF gs day p (Zf gs L ds day p hL hd ha hi hE)
  · have hl:(onL day p L ds).length<=ds.length:=List.length_filter_le ..
    exact aaE gs day p _ _ (qB.2 hE) (by omega) (Ze gs L ds day p hL hd ha hi hE)
def mG:TUnit:=⟨0,0,0,0,[],[],[],[]⟩
theorem wN:OkB mG:=⟨by decide,by decide,λx hx=>by
  have e:x=mG:=by simpa[mG,bV,bx]using hx
  subst e;exact⟨b6 _,b6 _⟩⟩
theorem ZL(X:lab)(hl:X.length<2^30)(ho:∀d,d∈X->og d.it):kP 40 [zU,.ls (X.map aV)] (.tuple [eU (dz mG X),.ls ((fQ mG X).map eQ)]):=
  (T1 mG X wN hl ho).args (.cons (xJ _ _ (by kernel_rfl)).1 (.cons (Le.refl _) .nil))
theorem Iu(X:lab)(hl:X.length<2^30)(ho:∀d,d∈X->og d.it):kP 19 [.ls (X.map aV)] (.tuple [eU (dz mG X),.ls ((fQ mG X).map eQ)]):=by
  have h:=ZL X hl ho
  exact bH Tryz.func19<|Kp 3 h<|Kf 3<|bA<|cX [av [iV (dz mG X).act,iV (dz mG X).item,iV (dz mG X).n,iV (dz mG X).kind,aj (dz mG X).label,aW<|List.map aQ (dz mG X).head,aW<|List.map aQ (dz mG X).words,aW<|List.map aU (dz mG X).kids],aW<|(fQ mG X).map eQ]
theorem Fl(gs:lal)(day:Int)(p:bZ)(X:lab)(hon:kP 9 [iV day,.str p,.ls (gs.map am)] (.ls (X.map aV))):kP 18 [iV day,.str p,.ls (gs.map am)] (.ls (X.map aV)):=by
  exact bH Tryz.func18<|Kp 3 hon<|Kf 0<|bA<|aW<|X.map aV
theorem Ts(gs:lal)(day:Int)(p:bZ)(X:lab)(hl:X.length<2^30)(ho:∀d,d∈X->og d.it)(hon:kP 9 [iV day,.str p,.ls (gs.map am)] (.ls (X.map aV))):kP 7 [iV day,.str p,.ls (gs.map am)] (eU (dz mG X)):=by
  have h1:=Fl gs day p X hon
  have h2:=Iu X hl ho
  exact bH Tryz.func7<|Kp 3 h1<|Mp h2<|Kf 7<|bA<|av [iV (dz mG X).act,iV (dz mG X).item,iV (dz mG X).n,iV (dz mG X).kind,aj (dz mG X).label,aW<|List.map aQ (dz mG X).head,aW<|List.map aQ (dz mG X).words,aW<|List.map aU (dz mG X).kids]
structure OkG(gs:lal):Prop where
  fit:qY gs
  len:gs.length<=9
  acts:∀g,g∈gs->g.acts.length<=20
  items:∀g,g∈gs->∀a,a∈g.acts->a.items.length<=40/\∀x,x∈a.items->oc x=true
theorem C5:∀(ys out:lah),(ys.foldl js out).length<=out.length+ys.length
  |[],out=>ar _
  | a::r,out=>by
    have:=C5 r (js out a);have:=(QC out a).2
    simp only[mS,lC];omega
theorem Bx:∀(gs:lal),(∀g,g∈gs->g.acts.length<=20)->∀out,(bv gs out).length<=out.length+20*gs.length
  |[],_,out=>ar _
  | g::r,hb,out=>by
    have:=Bx r (λx hx=>hb x (di _ hx)) (g.acts.foldl js out)
    have:=C5 g.acts out
    have:=hb g (dr ..)
    simp only[bv,mS,lC]at *
    omega
theorem QB{out:lah}{a b:PAct}(h:b∈js out a):b∈out\/b=a:=by
  unfold js at h
  split at h
  · exact .inl h
  · rcases ie.1 h with h|h
    · exact .inl h
    · exact .inr (jr.1 h)
theorem C4:∀(ys out:lah)(b:PAct),b∈ys.foldl js out->b∈out\/b∈ys
  |[],out,b,h=>.inl h
  | a::r,out,b,h=>by
    rcases C4 r (js out a) b h with h|h
    · rcases QB h with h|rfl
      · exact .inl h
      · exact .inr (dr ..)
    · exact .inr (di _ h)
theorem Bz:∀(gs:lal)(out:lah)(b:PAct),b∈bv gs out->b∈out\/∃g,g∈gs/\b∈g.acts
  |[],out,b,h=>.inl h
  | g::r,out,b,h=>by
    rcases Bz r (g.acts.foldl js out) b h with h|⟨g2,q1,q2⟩
    · rcases C4 g.acts out b h with h|h
      · exact .inl h
      · exact .inr ⟨g,dr ..,h⟩
    · exact .inr ⟨g2,di _ q1,q2⟩
theorem vP:∀(l:lah),(∀a,a∈l->a.items.length<=40)->(kR l).length<=40*l.length
  |[],_=>ar _
  | a::r,h=>by
    have:=vP r λb hb=>h b (di _ hb)
    have:=h a (dr ..)
    simp only[kR,CD,lA,l9,lC]at *
    omega
theorem OkG.act{gs:lal}(h:OkG gs){a:PAct}(ha:a∈dR gs):a.items.length<=40/\(∀x,x∈a.items->oc x=true)/\Pd a:=by
  have ha:=(j8 gs).mem_iff.1 ha
  rcases Bz gs [] a ha with q|⟨g,h1,h2⟩
  · cases q
  · exact⟨(h.items g h1 a h2).1,(h.items g h1 a h2).2,(h.fit.2 g h1).2 a h2⟩
noncomputable def eR(gs:lal):lab:=b9 (aB (dR gs) []) (dR gs)
theorem OkG.lens{gs:lal}(h:OkG gs):(dR gs).length<=180/\(eR gs).length<=7200:=by
  have h1:=Bx gs h.acts []
  have h2:=(j8 gs).length_eq
  have h3:=vP (dR gs) λa ha=>(h.act ha).1
  have h4:=h.len
  have h5:(eR gs).length=(kR (dR gs)).length:=cw ..
  simp only[lN]at h1
  omega
theorem OkG.all{gs:lal}(h:OkG gs):kP 47 [.ls (gs.map am)] (.ls ((dR gs).map aa))/\kP 35 [.ls (gs.map am)] (.ls ((eR gs).map aV)):=by
  have h1:=h.lens
  have h2:=(j8 gs).length_eq
  have h3:(eR gs).length=(kR (dR gs)).length:=cw ..
  have h4:=h.len
  exact⟨OK gs h.fit (λg hg=>mR (h.acts g hg) (by decide)) (by omega) (by omega),R6 gs h.fit (λg hg=>mR (h.acts g hg) (by decide)) (by omega) (by omega) (λa ha=>mR (h.act ha).1 (by decide)) (by omega)⟩
theorem Zs{x y:PItem}(h:oc x=true)(hy:y∈x.by_):oc y=true:=by
  rw[Fy]at h
  simp only[ba]at h
  have:=mf.1 h.2.2.2.2.2 y hy
  unfold I2 at this
  exact(jj.1 this).2
theorem Zr{x y:PItem}(h:nP x)(hy:y∈x.by_):nP y:=(rf.1 h).2.2.2.2.2.2 y hy
theorem GG{K V:Type}{keq:K->K->Bool}{k:K}{v:V}:∀{l:List (K×V)}{e:K×V},e∈cQ keq k v l->e∈l\/e.2=v
  | [],e,h=>by
    rw[cQ,jr]at h;exact .inr (by rw[h])
  | (j,u)::r,e,h=>by
    rw[cQ]at h
    cases q:keq k j with
    | true=>
      rw[q]at h
      rcases dO.1 h with h|h
      · exact .inr (by rw[h])
      · exact .inl (di _ h)
    | false=>
      rw[q]at h
      rcases dO.1 h with h|h
      · exact .inl (by rw[h];exact dr ..)
      · rcases GG (l:=r) h with h|h
        · exact .inl (di _ h)
        · exact .inr h
theorem HT{K V:Type}{keq:K->K->Bool}{k:K}{v:V}:∀{l:List (K×V)},mE keq k l=some v->∃e,e∈l/\e.2=v
  |[],h=>by cases h
  | (j,u)::r,h=>by
    rw[mE]at h
    cases q:keq k j with
    |true=>rw[q]at h;exact⟨(j,u),dr ..,LI h⟩
    | false=>
      rw[q]at h
      obtain⟨e,h1,h2⟩:=HT (l:=r) h
      exact⟨e,di _ h1,h2⟩
theorem PF{m:List ((Int×Int)×PItem)}{x:PItem}(hm:∀e,e∈m->og e.2)(h1:oc x=true)(h2:nP x):∀e,e∈j7 m x->og e.2:=by
  unfold j7
  split
  · rename_i h
    simp only[ba]at h
    have hl:=ap h.1.2
    have hy:gD x.by_ 0∈x.by_:=eP (by simp only[oN]at hl;omega)
    intro e he
    rcases GG he with q|q
    · exact hm e q
    · rw[q];exact Rh (Zr h2 hy) (Zs h1 hy)
  · exact hm
theorem EX:∀(xs:lat)(m:List ((Int×Int)×PItem)),(∀e,e∈m->og e.2)->(∀x,x∈xs->oc x=true/\nP x)->∀e,e∈xs.foldl j7 m->og e.2
  |[],_,hm,_=>hm
  |x::r,m,hm,h=>EX r (j7 m x) (PF hm (h x (dr ..)).1 (h x (dr ..)).2) λy hy=>h y (di _ hy)
theorem EZ:∀(l:lah)(m:List ((Int×Int)×PItem)),(∀e,e∈m->og e.2)->(∀a,a∈l->∀x,x∈a.items->oc x=true/\nP x)->∀e,e∈aB l m->og e.2
  |[],_,hm,_=>hm
  |a::r,m,hm,h=>EZ r (a.items.foldl j7 m) (EX a.items m hm (h a (dr ..))) λb hb=>h b (di _ hb)
theorem Bo(a:PAct):∀(l:lat)(i:Nat)(d:PDeed),d∈cJ a l i->d.it∈l
  |[],_,d,h=>by cases h
  | x::r,i,d,h=>by
    rcases dO.1 h with rfl|h
    · exact dr ..
    · exact di _ (Bo a r _ d h)
theorem OkG.deed{gs:lal}(h:OkG gs){d:PDeed}(hd:d∈eR gs):og d.it:=by
  have hi:∀a,a∈dR gs->∀x,x∈a.items->oc x=true/\nP x:=λa ha x hx=>⟨(h.act ha).2.1 x hx,(h.act ha).2.2.2 x hx⟩
  obtain⟨o,ho,rfl⟩:=iO.1 hd
  obtain⟨a,ha,hoa⟩:=List.mem_flatMap.1 ho
  have h1:=hi a ha _ (Bo a _ _ _ hoa)
  have h2:og o.it:=Rh h1.2 h1.1
  unfold lT
  split
  · rename_i hc
    have hc:=(jj.1 hc).1
    unfold rv at hc
    show og (Jo (aB (dR gs) []) o)
    unfold Jo
    cases q:mE pM (o.act,o.item) (aB (dR gs) [])with
    |none=>rw[q]at hc;cases hc
    | some v=>
      obtain⟨e,e1,e2⟩:=HT q
      have:=EZ (dR gs) [] (λe he=>by cases he) hi e e1
      rw[e2]at this
      exact this
  · exact h2
noncomputable def fE(day:Int)(p:bZ)(gs:lal):lab:=onL day p (dR gs) (eR gs)
noncomputable def I6(day:Int)(p:bZ)(gs:lal):TUnit:=dz mG (fE day p gs)
theorem OkG.force{gs:lal}(h:OkG gs)(day:Int)(p:bZ):(fE day p gs).length<2^30/\(∀d,d∈fE day p gs->og d.it)/\kP 9 [iV day,.str p,.ls (gs.map am)] (.ls ((fE day p gs).map aV)):=by
  have hl:=h.lens
  have h1:(fE day p gs).length<=(eR gs).length:=List.length_filter_le ..
  exact⟨by omega,λd hd=>h.deed (xV.1 hd).1,aaG gs _ _ day p (by omega) (by omega) h.all.1 h.all.2⟩
theorem OkG.book{gs:lal}(h:OkG gs)(day:Int)(p:bZ):kP 7 [iV day,.str p,.ls (gs.map am)] (eU (I6 day p gs)):=
  Ts gs day p _ (h.force day p).1 (h.force day p).2.1 (h.force day p).2.2
theorem OkG.okB{gs:lal}(h:OkG gs)(day:Int)(p:bZ):OkB (I6 day p gs):=BL wN (h.force day p).2.1
theorem Tp(gs:lal)(day:Int)(p:bZ)(X:lab)(hl:X.length<2^30)(ho:∀d,d∈X->og d.it)(hon:kP 9 [iV day,.str p,.ls (gs.map am)] (.ls (X.map aV))):kP 34 [iV day,.str p,.ls (gs.map am)] (.ls ((fQ mG X).map eQ)):=by
  have h1:=Fl gs day p X hon
  have h2:=Iu X hl ho
  exact bH Tryz.func34<|Kp 3 h1<|Mp h2<|Kf 7<|bA<|aW<|(fQ mG X).map eQ
theorem OkG.fails{gs:lal}(h:OkG gs)(day:Int)(p:bZ):kP 34 [iV day,.str p,.ls (gs.map am)] (.ls ((fQ mG (fE day p gs)).map eQ)):=
  Tp gs day p _ (h.force day p).1 (h.force day p).2.1 (h.force day p).2.2
noncomputable abbrev yc(a i:Int):AV:=.agg [iV a,iV i]
def mV(a i:Int)(d:PDeed):Bool:=ae d.act a&&ae d.item i
def Lc(a i:Int)(d:PFail):Bool:=ae d.act a&&ae d.item i
theorem V9(a i:Int)(d:PDeed):kP 30 [aV d,.pptr [yc a i] 0 0] (.bool (mV a i d)):=by
  have rr0 b' (h:(mV a i d)=b':=by(simp only[mV,be,aS,ak,bS, *];first|done|rfl)):=h;exact bH Tryz.func30<|Kj 7 d.act a (λb _=>Kt 0 b<|Kt 0 b<|Kt 0 b<|Kt 0 b<|Ku 0 b<|Kf 0<|cq<|rr0<|ae d.item i) λb _=>Mh b<|Mh b<|Mh b<|Mh b<|My b<|Ky 0<|rr0 false
theorem V7(a i:Int)(d:PFail):kP 31 [eQ d,.pptr [yc a i] 0 0] (.bool (Lc a i d)):=by
  have rr0 b' (h:(Lc a i d)=b':=by(simp only[Lc,be,aS,ak,bS, *];first|done|rfl)):=h;exact bH Tryz.func31<|Kj 7 d.act a (λb _=>Kt 0 b<|Kt 0 b<|Kt 0 b<|Kt 0 b<|Ku 0 b<|Kf 0<|cq<|rr0<|ae d.item i) λb _=>Mh b<|Mh b<|Mh b<|Mh b<|My b<|Ky 0<|rr0 false
theorem YS(a i:Int)(l:lab)(hl:l.length<2^40):kP 54 [.ls (l.map aV),.func (.func 30) [] [.pptr [yc a i] 0 0]] (iV (cN (mV a i) l 0)):=by
  have rr0 b' (h:(cN (mV a i) l 0)=b':=by first|exact jM zD0 hr0 hj0 ‹_› |exact hj0):=h;exact bH Tryz.func54<|Kl 2 7 (ln aV l)<|Mg 0<|sn aV l [0,1,7,8] (λb _=>([aW<|l.map aV,bc (bb 30) [] [AV.pptr [av [iV a,iV i]] 0 0],nV l.length,nV b],[])) (λb=>cN (mV a i) l (0:Nat)=cN (mV a i) b (l.length-b.length)) (by(exact wG)) (λ_ _ zD0 _ hr0 b hj0=>Kh 0 b<|Kf 0<|li<|rr0 (-1)) λb _ zD0 _ c d e hr0 f _ g hj0=>Kt 0 f<|Kx 4 g<|Kp 0 (V9 a i c)<|Mb (mV a i c) (λ_=>Kf 1<|li<|rr0<|Int.ofNat b) λ_=>Kl 0 18 (dQ b)<|Kf 0<|e<|by exact ii zD0 hr0 hj0 (by assumption)
theorem YR(a i:Int)(l:List PFail)(hl:l.length<2^40):kP 55 [.ls (l.map eQ),.func (.func 31) [] [.pptr [yc a i] 0 0]] (iV (cN (Lc a i) l 0)):=by
  have rr0 b' (h:(cN (Lc a i) l 0)=b':=by first|exact jM zD0 hr0 hj0 ‹_› |exact hj0):=h;exact bH Tryz.func55<|Kl 2 7 (ln eQ l)<|Mg 0<|sn eQ l [0,1,7,8] (λb _=>([aW<|l.map eQ,bc (bb 31) [] [AV.pptr [av [iV a,iV i]] 0 0],nV l.length,nV b],[])) (λb=>cN (Lc a i) l (0:Nat)=cN (Lc a i) b (l.length-b.length)) (by(exact wG)) (λ_ _ zD0 _ hr0 b hj0=>Kh 0 b<|Kf 0<|li<|rr0 (-1)) λb _ zD0 _ c d e hr0 f _ g hj0=>Kt 0 f<|Kx 4 g<|Kp 0 (V7 a i c)<|Mb (Lc a i c) (λ_=>Kf 1<|li<|rr0<|Int.ofNat b) λ_=>Kl 0 18 (dQ b)<|Kf 0<|e<|by exact ii zD0 hr0 hj0 (by assumption)
theorem Zh(a i:Int)(l:lab)(hl:l.length<2^40):kP 32 [.ls (l.map aV),.func (.func 30) [] [.pptr [yc a i] 0 0]] (.bool (l.any (mV a i))):=by
  have h:=YS a i l hl
  have rr0 b' (h:(l.any (mV a i))=b':=by(rw[jD];simp only[aS,ak,bS,mq])):=h;exact bH Tryz.func32<|Kp 2 h<|Kf 1<|cq<|rr0<|ak<|aE (cN (mV a i) l 0) 0
theorem Zg(a i:Int)(l:List PFail)(hl:l.length<2^40):kP 33 [.ls (l.map eQ),.func (.func 31) [] [.pptr [yc a i] 0 0]] (.bool (l.any (Lc a i))):=by
  have h:=YR a i l hl
  have rr0 b' (h:(l.any (Lc a i))=b':=by(rw[jD];simp only[aS,ak,bS,mq])):=h;exact bH Tryz.func33<|Kp 2 h<|Kf 1<|cq<|rr0<|ak<|aE (cN (Lc a i) l 0) 0
theorem V8(gs:lal)(day:Int)(p:bZ)(a i:Int)(X:lab)(F:List PFail)(hr:kP 18 [iV day,.str p,.ls (gs.map am)] (.ls (X.map aV)))(hf:kP 34 [iV day,.str p,.ls (gs.map am)] (.ls (F.map eQ)))(hX:X.length<2^30)(hF:F.length<2^30):kP 13 [iV day,.str p,yc a i,.ls (gs.map am)] (.bool (X.any (mV a i)&&ak (F.any (Lc a i)))):=by
  have h1:=Zh a i X (by omega)
  have h2:=Zg a i F (by omega)
  have rr0 b' (h:(X.any (mV a i)&&ak (F.any (Lc a i)))=b':=by(simp only[aS,ak,bS, *];first|done|rfl)):=h;exact bH Tryz.func13<|Kp 8 hr<|K1 0 (.frz 0 [0,1,3,10,16,17]) ti<|Mp h1<|Kb 0 (X.any<|mV a i) (λb=>Kt 0 b<|Kt 0 b<|Kt 0 b<|Mp hf<|Mt b<|Kt 0 b<|Mp h2<|Mt b<|Ku 0 b<|Kf 0<|cq<|rr0<|ak<|F.any<|Lc a i) λb=>Mh b<|Mh b<|Mh b<|Mh b<|Mh b<|Mh b<|My b<|Ky 0<|rr0 false
noncomputable def Sa(a:PAct):Bool:=ak (aE 40 (Int.ofNat a.items.length))&&ak (aE 300 (Int.ofNat a.title.length))&&ak (aE 100 (Int.ofNat a.start.event.length))
noncomputable def Cr(a:PAct):Bool:=Sa a&&a.items.all oc
theorem Wv(a:PAct)(hf:Pd a):kP 39 [aa a] (.bool (Cr a)):=by
  have fa:a.items.length<2^60:=hf.1
  have rr0 b' (h:(Cr a)=b':=by simp only[Cr,Sa,aS,ak,bS, *]):=h;exact bH Tryz.func39<|Kl 4 6 (ln PB a.items)<|Ka 1 40 (Int.ofNat a.items.length) (λb _=>Mt b<|Mt b<|Mt b<|MV b<|Ky 3<|rr0 false) λb _=>Kh 0 b<|Kh 0 b<|Kh 0 b<|Kw 0 b<|Ka 0 300 (Int.ofNat<|List.length a.title) (λb _=>Mt b<|Mt b<|Mt b<|Mt b<|MV b<|Ky 1<|rr0 false) λb _=>Kh 0 b<|Kh 0 b<|Kh 0 b<|Kh 0 b<|Kw 0 b<|Mb (aE 100<|Int.ofNat<|List.length a.start.event) (λb=>have:=ap b;Ky 0<|rr0 false) λb=>have:=aI b;K1 0 (.frz 0 [1,3]) ti<|sn PB a.items [1,3] (λb _=>([AV.pptr [av [iV a.number,aj a.title,iV a.day,iV a.start.kind,iV a.start.day,aj a.start.event,aW<|a.items.map PB]] 0 0,nV b],[])) (λb=>a.items.all oc=b.all oc) (by rfl) (λ_ _ _ _ _ b _=>Kl 3 24 (ln PB a.items)<|Kh 0 b<|Ky 0<|rr0 true) λb _ c _ d e f g i _ j _=>have j:=j.trans<|congrArg some<|eG d;Kl 3 24 (ln PB a.items)<|Kt 0 i<|Kx 2 j<|Kp 0 (Ww d<|by exact hf.2 _ (aG c g))<|Kn 0 (oc d) (λ_=>Kf 0<|cq<|rr0 false) λ_=>Kl 1 27 (dQ b)<|Kf 0<|f<|by simp only[aS,ak,bS, *]at *
noncomputable def W0(g:PGaz):Bool:=aE 100 (Int.ofNat g.prior.length)||aE 20 (Int.ofNat g.acts.length)
noncomputable def xL(g:PGaz):Bool:=ak (W0 g)&&g.acts.all Cr
def Zb:lah->Int->Int
  |[],n=>n
  |a::r,n=>Zb r (n+1+Int.ofNat a.items.length)
def LV:lal->Int->Int
  |[],n=>n
  |g::r,n=>LV r (Zb g.acts n)
noncomputable def DM(gs:lal):Bool:=gs.all xL&&(ak (aE 60 (LV gs 0))&&ak (aE 8 (Int.ofNat gs.length)))
theorem TH{x:Bool}(h:ak x=true):x=false:=by cases x with|false=>rfl|true=>cases h
theorem Iq{a:PAct}(h:Cr a=true):a.items.length<=40:=by
  unfold Cr Sa at h
  simp only[ba]at h
  have:=aI (TH h.1.1.1)
  simp only[oN]at this;omega
theorem SP(gs:lal)(hf:qY gs)(hl:gs.length<2^47):kP 17 [.ls (gs.map am)] (.bool (DM gs)):=by
  obtain⟨f0,f1⟩:=hf
  have fb:∀g,g∈gs->g.acts.length<2^60:=λg hg=>(f1 g hg).1
  have rr0 b' (h:(DM gs)=b':=by(simp only[DM,xL,W0,LV,aS,ak,bS, *];done)):=h;exact bH Tryz.func17<|Mg 2<|OV am gs (0:Int) [0,3,4] (λa _ b=>([aW<|gs.map am,iV b,nV a],[])) (λa b=>(0:Int)<=b/\b+(1000:Int)*Int.ofNat a.length<=(1000:Int)*Int.ofNat gs.length/\gs.all xL=a.all xL/\LV gs (0:Int)=LV a b) (by(refine⟨by omega,by simp only[oN]at *;omega,rfl,rfl⟩)) (λ_ _ a _ _ _ b _=>Kl 2 8 (ln am gs)<|Kh 0 b<|Kd 2 60 a (λa _=>Kt 0 (cM a)<|Kl 0 65 (ln am gs)<|Mt (cM a)<|Ku 0 (cM a)<|Kf 0<|cq<|rr0<|ak<|aE 8<|Int.ofNat gs.length) λa _=>Mh (cp a)<|Mh (cp a)<|My (cp a)<|Ky 0<|rr0 false) λa _ b c _ d f i j k _ l m=>Kl 2 8 (ln am gs)<|Kt 0 k<|Kx 1 l<|Ka 4 100 (Int.ofNat<|List.length d.prior) (λa _=>Mt a<|Mt a<|Mt a<|Mt a<|Mt a<|Mt a<|MV a<|Ky 1<|rr0 false) λk _=>Kh 0 k<|Kh 0 k<|Mx l<|Mh k<|Kh 0 k<|Kh 0 k<|Kl 0 25 (ln aa d.acts)<|Mh k<|Kw 0 k<|Mb (aE 20<|Int.ofNat d.acts.length) (λa=>have:=ap a;Ky 0<|rr0 false) λk=>have:=aI k;Mg 0<|OV aa d.acts b [0,3,4,5] (λb _ c=>([aW<|gs.map am,iV c,nV a,nV b],[])) (λa b=>(0:Int)<=b/\b+(41:Int)*Int.ofNat a.length+(1000:Int)*Int.ofNat f.length<=(1000:Int)*Int.ofNat gs.length/\d.acts.all Cr=a.all Cr/\True/\LV gs (0:Int)=LV f (Zb a b)) (by(refine⟨m.1,by have:=m.2.1;simp only[oN,lC]at *;omega,rfl,trivial,m.2.2.2⟩)) (λ_ _ b _ _ _ c j=>Kx 2 l<|Kl 2 34 (ln aa d.acts)<|Kh 0 c<|Kl 1 11 (dQ a)<|Kf 0<|i b<|by(refine⟨j.1,by have:=j.2.1;simp only[oN,lN,lC]at *;omega,?_,j.2.2.2.2⟩;have e:=j.2.2.1;simp only[xL,W0,List.all_cons,List.all_nil,aS,ak,bS, *]at *)) λa _ b i _ k m n o p _ q r=>have:=fb d<|aG c j;have:=((f1 d<|aG c j).2 k<|aG i o).1;Kx 2 l<|Kl 2 34 (ln aa d.acts)<|Kt 0 p<|Kx 1 l<|Kx 2 q<|Kp 0 (Wv k<|by first|exact(f1 _ (aG c j)).2 _ (aG i o))<|Kn 0 (Cr k) (λ_=>Kf 0<|cq<|rr0 false) λ_=>Kl 1 49 (Le.wr (x:=b+1) fu)<|Kx 1 l<|Kx 2 q<|Kl 2 59 (ln PB k.items)<|Kl 0 60 (Le.wr (x:=b+1+Int.ofNat k.items.length) fu)<|Kl 2 37 (dQ a)<|Kf 0<|n (b+1+Int.ofNat k.items.length)<|by(refine⟨by simp only[oN]at *;omega,by(have:=r.2.1;have:=Iq (by assumption);simp only[oN,lC]at *;omega),?_,trivial,r.2.2.2.2⟩;simp only[aS,ak,bS, *]at *)
noncomputable def wL(gs:lal)(p:bZ):Bool:=DM gs&&ak (aE 100 (Int.ofNat p.length))
theorem Pn(gs:lal)(p:bZ)(hf:qY gs)(hl:gs.length<2^47):kP 5 [.ls (gs.map am),.str p] (.bool (wL gs p)):=by
  have rr0 b' (h:(wL gs p)=b':=by simp only[wL,aS,ak,bS, *]):=h;exact bH Tryz.func5<|Kp 1 (SP gs hf hl)<|Kb 0 (DM gs) (λa=>Kt 0 a<|Kt 0 a<|Ku 0 a<|Kf 0<|cq<|rr0<|ak<|aE 100<|Int.ofNat<|List.length p) λa=>Mh a<|Mh a<|My a<|Ky 0<|rr0 false
theorem Ri{gs:lal}{p:bZ}(hf:qY gs)(h:wL gs p=true):OkG gs:=by
  unfold wL DM at h
  simp only[ba]at h
  obtain⟨⟨h1,_,h3⟩,_⟩:=h
  have h3:=aI (TH h3)
  have hg:∀g,g∈gs->xL g=true:=λg hg=>mf.1 h1 g hg
  refine⟨hf,by simp only[oN]at h3;omega,λg h=>?_,λg h a ha=>?_⟩
  · have z:=hg g h
    unfold xL W0 at z
    have z:=aI (GV.1 (TH (jj.1 z).1)).2
    simp only[oN]at z;omega
  · have z:=hg g h
    unfold xL at z
    have z:=mf.1 (jj.1 z).2 a ha
    refine⟨Iq z,?_⟩
    unfold Cr at z
    exact λx hx=>mf.1 (jj.1 z).2 x hx
end Go.Proofs.YtiflidpifinbjaaGreatDoor
