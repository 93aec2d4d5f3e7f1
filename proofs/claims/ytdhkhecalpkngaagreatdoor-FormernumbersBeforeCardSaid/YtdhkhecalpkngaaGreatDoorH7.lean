/- Functions walked: what each of them answers, for If an address denotes exactly one unit on the book before an item reference, LastHolder returns that unit, and every unit that LastHolder returns is among the Holders: part 7. Conditions: those that each theorem names. -/
import Derived.Test.YtdhkhecalpkngaaGreatDoorH6
namespace Go.Proofs.YtdhkhecalpkngaaGreatDoor
open Go Go.Ev
theorem wR:kP 98 [.nils] (.ls ((jx []).map aU)):=(jY [] (by simp)).onArgs (.cons Le.nils .nil)
theorem DE{g:Int->Bool}{K:List Int}{x e:Nat}{S:List PSpan}(h:S=kY g (K.drop (x-1)))(h1:1<=x)(h2:x<K.length)(hg:g (gD K (x-1))=true)(he:e=x+1):S=⟨gD K (x-1),gD K x⟩::kY g (K.drop (e-1)):=by rw[h,Ck h1 h2,hg,he]
theorem DF{g:Int->Bool}{K:List Int}{x e:Nat}{S:List PSpan}(h:S=kY g (K.drop (x-1)))(h1:1<=x)(h2:x<K.length)(hg:g (gD K (x-1))=false)(he:e=x+1):S=kY g (K.drop (e-1)):=by rw[h,Ck h1 h2,hg,he]
theorem ZQ:ba (dP (ph []))=[]:=sX (by have z:=AB [];exact Nat.le_zero.1 z)
theorem XB{A B x y:List PSpan}(h1:A=x)(h2:B=y):x++y=A++B:=by rw[h1,h2]
theorem SQ{A B x:List PSpan}(h1:A=x)(h2:B=[]):x=A++B:=by rw[h1,h2,ei]
theorem V0{A B y:List PSpan}(h1:A=[])(h2:B=y):y=A++B:=by rw[h1,h2];rfl
theorem T7{A r:List PSpan}{w:PSpan}(h:A=w::r)(hl:A.length<=1048577):r.length<2^30:=by rw[h,lC]at hl;omega
theorem TJ{A B:List PSpan}{w v:PSpan}{r s:List PSpan}(h:A=w::r)(k:B=v::s)(hl:A.length<=1048577)(kl:B.length<=1048577):small (r.length+1+((v::s).map aU).length) 16=true:=by
  rw[h,lC]at hl;rw[k,lC]at kl
  rw[lM,lC];refine dK (m:=2^31) ?_ ?_ ?_<;>omega
theorem KJ{B:List PSpan}{v:PSpan}{s:List PSpan}(k:B=v::s)(kl:B.length<=1048577):small ((v::s).map aU).length 16=true:=by
  rw[k,lC]at kl
  rw[lM,lC];refine dK (m:=2^31) ?_ ?_ ?_<;>omega
def SK(F:Nat)(A:List PSpan)(B:List PSpan)(z20:List PSpan):Prop:=z20=A++B
noncomputable def SJ(F:Nat)(A:List PSpan)(B:List PSpan)(z20:List PSpan):List AV×List AObj:=([AV.ls (A.map aU),AV.ls (B.map aU),AV.func (Fn.func F) [] [],AV.nils,AV.ls (z20.map aU),nV z20.length,iV 0],[])
def N6(F:Nat)(A:List PSpan)(B:List PSpan)(z20:List PSpan)(z37:List Int):Prop:=z37=io z20
noncomputable def N5(F:Nat)(A:List PSpan)(B:List PSpan)(z20:List PSpan)(z37:List Int):List AV×List AObj:=([AV.ls (A.map aU),AV.ls (B.map aU),AV.func (Fn.func F) [] [],AV.ls (z37.map bu)],[])
def N4(F:Nat)(A:List PSpan)(B:List PSpan)(z20:List PSpan)(z37:List Int):Prop:=z37=io z20
noncomputable def N3(F:Nat)(A:List PSpan)(B:List PSpan)(z20:List PSpan)(z37:List Int):List AV×List AObj:=([AV.ls (A.map aU),AV.ls (B.map aU),AV.func (Fn.func F) [] [],AV.ls (z37.map bu)],[])
theorem LO(F:Nat)(op:Bool->Bool->Bool)(hF:∀x y,bX Tryz.prog G F [.bool x,.bool y] (.bool (op x y)))(e0:op false false=false)(a b:List PSpan)(ha:a.length<2^30)(hb:b.length<2^30):
    bX Tryz.prog G 299 [.ls (a.map aU),.ls (b.map aU),.func (.func F) [] []] (.ls ((se op a b).map aU)):=by
  have nA:=jY a ha
  have nB:=jY b hb
  have hA:=mC a
  have hB:=mC b
  have hd:=N7 e0 (a:=a) (b:=b) rfl rfl
  generalize jx a=A at *
  generalize jx b=B at *
  have lA:=hA.len
  have lB:=hB.len
  have hasA:∀d,bX Tryz.prog G 97 [.ls (A.map aU),.int .i64 d] (.bool (iM A d)):=fun d=>Jz A d hA.sort (by omega)
  have hasB:∀d,bX Tryz.prog G 97 [.ls (B.map aU),.int .i64 d] (.bool (iM B d)):=fun d=>Jz B d hB.sort (by omega)
  obtain⟨g,hg⟩:∃g:Int->Bool,g=fun d=>op (iM A d) (iM B d):=⟨_,rfl⟩
  have hgv:∀d v0,op (iM A d) (iM B d)=v0->g d=v0:=fun d v0 h=>by rw[hg];exact h
  rw[<-hg]at hd
  have hcl:∀x,x=A++B->(io x).length<2^30:=fun x hx=>by
    have z:=AB x
    rw[hx,eW]at z
    rw[hx];omega
  have hll:∀x,x=A++B->x.length<2^22:=fun x hx=>by rw[hx,eW];omega
  obtain⟨res,hres⟩:∃res,res=se op a b:=⟨_,rfl⟩
  rw[<-hres]at hd ⊢
  have hdone:∀x y z,x=A++B->y=io x->kY g y=z->jx z=res:=fun x y z h1 h2 h3=>by rw[<-h3,h2,h1];exact hd
  clear hd hg hres hA hB
  have rr0 b' (h:(List.map aU res)=b':=by first|rfl|exact hdone _ _ _ hz20 hz37 (by rw[hx1.2.2,ld hx1.1 (by(first|omega|(simp only[aN]at *;omega)))])|exact(hdone _ _ _ hz20 hz37 (by rw[hx1.2.2.2.2,ld hx1.1 (by(first|omega|(simp only[aN]at *;omega))),ei]))|(rw[hdone _ _ _ hz20 hz37 (by rw[hx1.2.2,ld hx1.1 (by(first|omega|(simp only[aN]at *;omega)))])])|(rw[hdone _ _ _ hz20 hz37 (by rw[hx1.2.2.2.2,ld hx1.1 (by(first|omega|(simp only[aN]at *;omega))),ei])])):=h;exact bo Tryz.func299<|Kp 1 nA<|Kp 0 nB<|Mg 2<|M0 .inn<|Mj (List PSpan) [0,1,2,7,20,21,22] (SJ F A B) (SK F A B) (fun c=>Mg 0<|Mc A (fun e=>Ml 17 (fm<|by rw[e];rfl:Le (aW []) (aW (List.map aU A)))<|Mz 17 (fun(_:([]:List AV)=[])=>Mg 1<|Mc B (fun e=>Ml 19 (fm<|by rw[e];rfl:Le (aW []) (aW (List.map aU B)))<|Kl 0 20 bA<|Kf 1<|c [] (by exact SQ (by assumption) (by assumption):[]=A++B)) fun e f i=>Ml 19 (fm<|by rw[i]:Le (aW (List.map aU (e::f))) (aW (List.map aU B)))<|M2 .apl (et (by exact ja _ _:List.map aU (e::f)≠[])<|fM 2 aU (e::f) fun _=>rfl) (by exact KJ (by assumption) lB:small (List.map aU (e::f)).length 16=true)<|M2 (.fsl 0 [0,1,2,7] 20<|List.map aU<|e::f) True.intro (ch (ax 0) (tA aU (e::f) (List.map aU<|e::f).length (by(simp only[cQ,cO,eW];done):(e::f).length=(List.map aU (e::f)).length))<|aX VN<|e::f)<|Ml 20 (fY (List.map aU<|e::f) false<|aX VN<|e::f)<|Kl 0 21 (ln aU<|e::f)<|Kf 0<|c (e::f) (by exact V0 (by assumption) (by assumption):e::f=A++B))<|Mg 1<|Mc B (fun e=>Ml 19 (fm<|by rw[e];rfl:Le (aW []) (aW (List.map aU B)))<|Kl 0 20 (fY [] true (ax 0:aj ([])=0))<|Kf 1<|c [] (by exact SQ (by assumption) (by assumption):[]=A++B)) fun e f i=>Ml 19 (fm<|by rw[i]:Le (aW (List.map aU (e::f))) (aW (List.map aU B)))<|M2 .apl (et (by exact ja _ _:List.map aU (e::f)≠[])<|fM 2 aU (e::f) fun _=>rfl) (by exact KJ (by assumption) lB:small (List.map aU (e::f)).length 16=true)<|M2 (.fsl 0 [0,1,2,7] 20<|List.map aU<|e::f) True.intro (ch (ax 0) (tA aU (e::f) (List.map aU<|e::f).length (by(simp only[cQ,cO,eW];done):(e::f).length=(List.map aU (e::f)).length))<|aX VN<|e::f)<|Ml 20 (fY (List.map aU<|e::f) false<|aX VN<|e::f)<|Kl 0 21 (ln aU<|e::f)<|Kf 0<|c (e::f) (by exact V0 (by assumption) (by assumption):e::f=A++B)) fun e f i=>Ml 17 (fm<|by rw[i]:Le (aW (List.map aU (e::f))) (aW (List.map aU A)))<|Me (RN e f<|by exact T7 (by assumption) lA)<|Mg 0<|Mc B (fun i=>Ml 19 (fm<|by rw[i];rfl:Le (aW []) (aW (List.map aU B)))<|Mg 0<|M2 (.fsl 0 [0,1,2,7] 20<|List.map aU<|e::f) True.intro (ch (ax 0) (tA aU (e::f) (f.length+1) rfl)<|aX VN<|e::f)<|Ml 20 (fY (List.map aU<|e::f) false<|aX VN<|e::f)<|Kl 0 21 (ln aU<|e::f)<|Kf 0<|c (e::f) (by exact SQ (by assumption) (by assumption):e::f=A++B)) fun i j k=>Ml 19 (fm<|by rw[k]:Le (aW (List.map aU (i::j))) (aW (List.map aU B)))<|M2 .apl (et (by exact ja _ _:List.map aU (i::j)≠[])<|fM 2 aU (i::j) fun _=>rfl) (ch (ax 0) (by(simp only[cQ,cO,eW];done):f.length+1=(List.map aU (e::f)).length) (by exact TJ (by assumption) (by assumption) lA lB:small (f.length+1+(List.map aU (i::j)).length) 16=true))<|M1 (.obj 0<|aZ 2 true (0+1)<|List.map aU<|e::f++i::j) (congrArg (aZ 2 true<|0+1)<|dJ (f:=aU) (l:=e::f) (ws:=i::j))<|M2 (.fsl 0 [0,1,2,7] 20<|List.map aU<|e::f++i::j) True.intro (ch (ax<|0+1) (tA aU (e::f++i::j) (f.length+1+(List.map aU<|i::j).length) (by(simp only[cQ,cO,eW];done):(e::f++i::j).length=f.length+1+(List.map aU (i::j)).length))<|aX VN<|e::f++i::j)<|Ml 20 (fY (List.map aU<|e::f++i::j) false<|aX VN<|e::f++i::j)<|Kl 0 21 (ln aU<|e::f++i::j)<|Kf 0<|c (e::f++i::j) (by exact XB (by assumption) (by assumption):e::f++i::j=A++B)) fun c hz20=>have hz20:=hz20;kB Nat Nat (List Int) aU c [0,1,2,7,20,21,22] (fun e _=>([aW<|A.map aU,aW<|B.map aU,bQ (aT F) [] [],ak,aW<|c.map aU,nV c.length,nV e],[])) (fun e _ f i j=>([aW<|A.map aU,aW<|B.map aU,bQ (aT F) [] [],aD 0 f 0 i none,aW<|c.map aU,nV c.length,nV e],[aZ 1 true f<|j.map bu])) (fun e=>ph c=ph e) (fun e _ f i=>f=i.length/\(0:Nat)<i.length/\ph c=i++ph e) (by rfl) (fun _ _ _ _ _ e f=>Kh 0 e<|Kp 0 GB<|Mj (List Int) [0,1,2,7] (N5 F A B c) (N6 F A B c) (fun e=>Kl 1 37 bA<|Kf 0<|e [] (by(unfold io;rw[f];exact ZQ.symm):[]=io c)) fun e hz37=>have hz37:=hz37;have:=hz37▸hcl _ hz20;Mg 1<|SA Nat Nat Nat (List PSpan) (1:Nat) [0,1,2,7,10,11] (fun c=>([aW<|A.map aU,aW<|B.map aU,bQ (aT F) [] [],aW<|e.map bu,ak,nV c],[])) (fun c f i j=>([aW<|A.map aU,aW<|B.map aU,bQ (aT F) [] [],aW<|e.map bu,aD 0 f 0 i none,nV c],[aZ 2 true f<|j.map aU])) (fun c=>(1:Nat)<=c/\c<=2^30/\kY g e=kY g (e.drop<|c-1)) (fun c _ f i=>(1:Nat)<=c/\c<=2^30/\f=i.length/\i.length<c/\kY g e=i++kY g (e.drop<|c-1)) (fun c=>2^31-c) (fun c _ _ _=>2^31-c) (by exact⟨ah _,by omega,rfl⟩) (fun c hx1 f i=>have hx1:=hx1;have:=hx1.1;have:=hx1.2.1;Kl 2 40 (ln bu e)<|Ka 0 (Int.ofNat c) (Int.ofNat e.length) (fun _ _=>Kl 2 46 (E8 c)<|Mx (bJ bu (by(simp only[aN,cQ,kL]at *;omega):c-1<(e).length))<|Kp 4 (hasA<|gD e<|c-1)<|Kp 1 (hasB<|gD e<|c-1)<|Mp (hF (iM A<|gD e<|c-1)<|iM B<|gD e<|c-1)<|Mb (op (iM A<|gD e<|c-1)<|iM B<|gD e<|c-1) (fun _=>Kx 3 (bJ bu (by(simp only[aN,cQ,kL]at *;omega):c<(e).length))<|Kl 6 43 (iF c)<|Kf 0<|i (c+1) 0 1 [PSpan.mk (gD e<|c-1)<|gD e c] (by exact⟨by(omega),by(simp only[aN]at *;omega),rfl,by(simp only[cO,gP];omega),DE hx1.2.2 hx1.1 (by(simp only[aN]at *;omega)) (hgv _ _ (by assumption)) rfl⟩)<|by(omega)) fun _=>Kl 1 43 (iF c)<|Kf 0<|f (c+1) (by exact⟨by(omega),by(simp only[aN]at *;omega),DF hx1.2.2 hx1.1 (by(simp only[aN]at *;omega)) (hgv _ _ (by assumption)) rfl⟩)<|by(omega)) fun _ _=>Kp 0 wR<|Kf 0<|cn<|rr0<|List.map aU<|jx []) fun c i j k hx1 _ l=>have hx1:=hx1;have:=hx1.1;have:=hx1.2.1;Kl 2 40 (ln bu e)<|Ka 0 (Int.ofNat c) (Int.ofNat e.length) (fun _ _=>Kl 2 46 (E8 c)<|Mx (bJ bu (by(simp only[aN,cQ,kL]at *;omega):c-1<(e).length))<|Kp 4 (hasA<|gD e<|c-1)<|Kp 1 (hasB<|gD e<|c-1)<|Mp (hF (iM A<|gD e<|c-1)<|iM B<|gD e<|c-1)<|Mb (op (iM A<|gD e<|c-1)<|iM B<|gD e<|c-1) (fun _=>Kx 3 (bJ bu (by(simp only[aN,cQ,kL]at *;omega):c<(e).length))<|K1 2 .app (ch (ax i) (by(rw[cQ];first|exact f.1|exact hx1.2.2.1):j=(List.map aU k).length) (by(refine dK (m:=2^31) ?_ ?_ ?_<;>first|omega|(simp only[cQ,cO,eW,gP];omega)|(have z:=congrArg List.length f.2.2;rw[kg,eW]at z;have z9:=hll _ hz20;have z2:=f.1;first|omega|(simp only[cO,gP];omega))|(have z:=hx1.2.2.2.1;have z2:=hx1.2.2.1;have z3:=hx1.2.1;first|omega|(simp only[cO,gP];omega))):small (j+1) 16=true))<|M1 (.obj 0<|aZ 2 true (i+1)<|List.map aU<|k++[PSpan.mk (gD e<|c-1)<|gD e c]) (congrArg (aZ 2 true<|i+1)<|dJ (f:=aU) (l:=k) (ws:=[PSpan.mk (gD e<|c-1)<|gD e c]))<|Kl 2 43 (iF c)<|Kf 0<|l (c+1) (i+1) (j+1) (k++[PSpan.mk (gD e<|c-1)<|gD e c]) (by exact⟨by(omega),by(simp only[aN]at *;omega),by rw[eW,<-hx1.2.2.1];rfl,by(have z:=hx1.2.2.2.1;simp only[eW,cO,gP];omega),by rw[hx1.2.2.2.2,DE rfl hx1.1 (by(simp only[aN]at *;omega)) (hgv _ _ (by assumption)) rfl];simp⟩)<|by(omega)) fun _=>Kl 1 43 (iF c)<|Kf 0<|l (c+1) i j k (by exact⟨by(omega),by(simp only[aN]at *;omega),hx1.2.2.1,by(have z:=hx1.2.2.2.1;omega),by rw[hx1.2.2.2.2,DF rfl hx1.1 (by(simp only[aN]at *;omega)) (hgv _ _ (by assumption)) rfl]⟩)<|by(omega)) fun _ _=>Mg 0<|M2 (.fsl 0 [] 66<|List.map aU k) True.intro (ch (ax i) (tA aU k j (by(omega):(k).length=j))<|aX VN k)<|Ml 66 (fY (List.map aU k) false<|aX VN k)<|Mp (jY k<|by(omega))<|Kf 0<|cn<|rr0<|List.map aU<|jx k) (fun e _ _ _ f i _ j _ k _ l n=>have:=hll _ hz20;Kt 0 k<|Mx l<|Kl 11 33 (iF e)<|Mg 0<|M0 (.ren [1,0] [] [0,1,2,7,20,21,22])<|M1 (.frz 1 [0,1,2,7,20,21,22]) (et (ax true) True.intro)<|Mf<|j 0 2 [f.from_,f.to]<|by exact⟨rfl,by simp,by rw[n];rfl⟩) (fun _ _ e f i _ _ _ j k=>Kh 0 j<|Ke 0 (JV i e f (by(omega)) (by(omega))<|by(have z:=congrArg List.length k.2.2;rw[kg,eW]at z;have z9:=hll _ hz20;omega))<|Mj (List Int) [0,1,2,7] (N3 F A B c) (N4 F A B c) (fun j=>Ke 0 (Bs (dP i) e f (by(rw[(lX _).length_eq];first|exact k.1|exact k.2.1|(have z:=congrArg List.length k.2.2;rw[kg,eW]at z;have z9:=hll _ hz20;omega))) (by(rw[(lX _).length_eq];first|exact k.1|exact k.2.1|(have z:=congrArg List.length k.2.2;rw[kg,eW]at z;have z9:=hll _ hz20;omega)))<|by(rw[(lX _).length_eq];first|exact k.1|exact k.2.1|(have z:=congrArg List.length k.2.2;rw[kg,eW]at z;have z9:=hll _ hz20;omega)))<|M2 (.fsl 0 [0,1,2] 37<|List.map bu<|List.take (ba<|dP i).length<|ba (dP i)++List.replicate ((dP i).length -(ba<|dP i).length) 0) True.intro (ch (ax e) (CY (f:=bu) (l:=ba (dP i)++List.replicate ((dP i).length -(ba<|dP i).length) 0) (n:=(ba<|dP i).length))<|aX Xg<|List.take (ba<|dP i).length<|ba (dP i)++List.replicate ((dP i).length -(ba<|dP i).length) 0)<|Ml 37 (fY (List.map bu<|List.take (ba<|dP i).length<|ba (dP i)++List.replicate ((dP i).length -(ba<|dP i).length) 0) false<|aX Xg<|List.take (ba<|dP i).length<|ba (dP i)++List.replicate ((dP i).length -(ba<|dP i).length) 0)<|Kf 0<|j (List.take (ba<|dP i).length<|ba (dP i)++List.replicate ((dP i).length -(ba<|dP i).length) 0) (by(unfold io;rw[k.2.2];simp[ph]):List.take (ba (dP i)).length (ba (dP i)++List.replicate ((dP i).length -(ba (dP i)).length) (0:Int))=io c)) fun e hz37=>have hz37:=hz37;have:=hz37▸hcl _ hz20;Mg 1<|SA Nat Nat Nat (List PSpan) (1:Nat) [0,1,2,7,10,11] (fun c=>([aW<|A.map aU,aW<|B.map aU,bQ (aT F) [] [],aW<|e.map bu,ak,nV c],[])) (fun c f i j=>([aW<|A.map aU,aW<|B.map aU,bQ (aT F) [] [],aW<|e.map bu,aD 0 f 0 i none,nV c],[aZ 2 true f<|j.map aU])) (fun c=>(1:Nat)<=c/\c<=2^30/\kY g e=kY g (e.drop<|c-1)) (fun c _ f i=>(1:Nat)<=c/\c<=2^30/\f=i.length/\i.length<c/\kY g e=i++kY g (e.drop<|c-1)) (fun c=>2^31-c) (fun c _ _ _=>2^31-c) (by exact⟨ah _,by omega,rfl⟩) (fun c hx1 f i=>have hx1:=hx1;have:=hx1.1;have:=hx1.2.1;Kl 2 40 (ln bu e)<|Ka 0 (Int.ofNat c) (Int.ofNat e.length) (fun _ _=>Kl 2 46 (E8 c)<|Mx (bJ bu (by(simp only[aN,cQ,kL]at *;omega):c-1<(e).length))<|Kp 4 (hasA<|gD e<|c-1)<|Kp 1 (hasB<|gD e<|c-1)<|Mp (hF (iM A<|gD e<|c-1)<|iM B<|gD e<|c-1)<|Mb (op (iM A<|gD e<|c-1)<|iM B<|gD e<|c-1) (fun _=>Kx 3 (bJ bu (by(simp only[aN,cQ,kL]at *;omega):c<(e).length))<|Kl 6 43 (iF c)<|Kf 0<|i (c+1) 0 1 [PSpan.mk (gD e<|c-1)<|gD e c] (by exact⟨by(omega),by(simp only[aN]at *;omega),rfl,by(simp only[cO,gP];omega),DE hx1.2.2 hx1.1 (by(simp only[aN]at *;omega)) (hgv _ _ (by assumption)) rfl⟩)<|by(omega)) fun _=>Kl 1 43 (iF c)<|Kf 0<|f (c+1) (by exact⟨by(omega),by(simp only[aN]at *;omega),DF hx1.2.2 hx1.1 (by(simp only[aN]at *;omega)) (hgv _ _ (by assumption)) rfl⟩)<|by(omega)) fun _ _=>Kp 0 wR<|Kf 0<|cn<|rr0<|List.map aU<|jx []) fun c f i j hx1 _ l=>have hx1:=hx1;have:=hx1.1;have:=hx1.2.1;Kl 2 40 (ln bu e)<|Ka 0 (Int.ofNat c) (Int.ofNat e.length) (fun _ _=>Kl 2 46 (E8 c)<|Mx (bJ bu (by(simp only[aN,cQ,kL]at *;omega):c-1<(e).length))<|Kp 4 (hasA<|gD e<|c-1)<|Kp 1 (hasB<|gD e<|c-1)<|Mp (hF (iM A<|gD e<|c-1)<|iM B<|gD e<|c-1)<|Mb (op (iM A<|gD e<|c-1)<|iM B<|gD e<|c-1) (fun _=>Kx 3 (bJ bu (by(simp only[aN,cQ,kL]at *;omega):c<(e).length))<|K1 2 .app (ch (ax f) (by(rw[cQ];first|exact k.1|exact hx1.2.2.1):i=(List.map aU j).length) (by(refine dK (m:=2^31) ?_ ?_ ?_<;>first|omega|(simp only[cQ,cO,eW,gP];omega)|(have z:=congrArg List.length k.2.2;rw[kg,eW]at z;have z9:=hll _ hz20;have z2:=k.1;first|omega|(simp only[cO,gP];omega))|(have z:=hx1.2.2.2.1;have z2:=hx1.2.2.1;have z3:=hx1.2.1;first|omega|(simp only[cO,gP];omega))):small (i+1) 16=true))<|M1 (.obj 0<|aZ 2 true (f+1)<|List.map aU<|j++[PSpan.mk (gD e<|c-1)<|gD e c]) (congrArg (aZ 2 true<|f+1)<|dJ (f:=aU) (l:=j) (ws:=[PSpan.mk (gD e<|c-1)<|gD e c]))<|Kl 2 43 (iF c)<|Kf 0<|l (c+1) (f+1) (i+1) (j++[PSpan.mk (gD e<|c-1)<|gD e c]) (by exact⟨by(omega),by(simp only[aN]at *;omega),by rw[eW,<-hx1.2.2.1];rfl,by(have z:=hx1.2.2.2.1;simp only[eW,cO,gP];omega),by rw[hx1.2.2.2.2,DE rfl hx1.1 (by(simp only[aN]at *;omega)) (hgv _ _ (by assumption)) rfl];simp⟩)<|by(omega)) fun _=>Kl 1 43 (iF c)<|Kf 0<|l (c+1) f i j (by exact⟨by(omega),by(simp only[aN]at *;omega),hx1.2.2.1,by(have z:=hx1.2.2.2.1;omega),by rw[hx1.2.2.2.2,DF rfl hx1.1 (by(simp only[aN]at *;omega)) (hgv _ _ (by assumption)) rfl]⟩)<|by(omega)) fun _ _=>Mg 0<|M2 (.fsl 0 [] 66<|List.map aU j) True.intro (ch (ax f) (tA aU j i (by(omega):(j).length=i))<|aX VN j)<|Ml 66 (fY (List.map aU j) false<|aX VN j)<|Mp (jY j<|by(omega))<|Kf 0<|cn<|rr0<|List.map aU<|jx j) fun e _ f i j _ _ k l _ n _ o _ p q=>have:=hll _ hz20;Kt 0 o<|Mx p<|K1 8 .app (ch (ax f) (by(rw[cQ];first|exact q.1|exact hx1.2.2.1):i=(List.map bu j).length) (by(refine dK (m:=2^31) ?_ ?_ ?_<;>first|omega|(simp only[cQ,cO,eW,gP];omega)|(have z:=congrArg List.length q.2.2;rw[kg,eW]at z;have z9:=hll _ hz20;have z2:=q.1;first|omega|(simp only[cO,gP];omega))|(have z:=hx1.2.2.2.1;have z2:=hx1.2.2.1;have z3:=hx1.2.1;first|omega|(simp only[cO,gP];omega))):small (i+2) 8=true))<|M1 (.obj 0<|aZ 1 true (f+1)<|List.map bu<|j++[k.from_,k.to]) (congrArg (aZ 1 true<|f+1)<|dJ (f:=bu) (l:=j) (ws:=[k.from_,k.to]))<|Kl 1 33 (iF e)<|K1 0 (.frz 1 [0,1,2,7,20,21,22]) (et (tR 1 true (f+1) 1<|aX Xg<|j++[k.from_,k.to]) True.intro)<|Mf<|n (f+1) (i+2) (j++[k.from_,k.to])<|by exact⟨by rw[eW,<-q.1];rfl,by simp,by rw[q.2.2,DX];simp⟩
theorem Wd(x y:Bool):kP 300 [.bool x,.bool y] (.bool (x||y)):=by
  have rr0 b' (h:(x||y)=b':=by simp only[aS,aw,bS, *]):=h;exact bo Tryz.func300<|Kb 2 x (fun a=>MV a<|Ky 0<|rr0 true) fun a=>Kw 0 a<|Ky 0<|rr0 y
theorem Vj(x y:Bool):kP 301 [.bool x,.bool y] (.bool (x&&y)):=by
  have rr0 b' (h:(x&&y)=b':=by simp only[aS,aw,bS, *]):=h;exact bo Tryz.func301<|Kb 2 x (fun a=>Ku 0 a<|Ky 0<|rr0 y) fun a=>My a<|Ky 0<|rr0 false
theorem OL(a b:List PSpan)(ha:a.length<2^30)(hb:b.length<2^30):kP 266 [.ls (a.map aU),.ls (b.map aU)] (.ls ((se (· || ·) a b).map aU)):=by
  have h:=LO 300 (· || ·) Wd rfl a b ha hb
  exact bo Tryz.func266<|Kp 2 h<|Kf 0<|bY<|aW<|(se (fun c d=>c||d) a b).map aU
theorem Qe(a b:List PSpan)(ha:a.length<2^30)(hb:b.length<2^30):kP 268 [.ls (a.map aU),.ls (b.map aU)] (.ls ((se (· && ·) a b).map aU)):=by
  have h:=LO 301 (· && ·) Vj rfl a b ha hb
  exact bo Tryz.func268<|Kp 2 h<|Kf 0<|bY<|aW<|(se (fun c d=>c&&d) a b).map aU
noncomputable def o5(a:List PSpan)(d:Int):List PSpan:=se (· && ·) a [⟨0,d⟩]
noncomputable def pN(a:List PSpan)(d:Int):List PSpan:=se (· || ·) (o5 a d) [⟨d,1048577⟩]
theorem sn(a:List PSpan)(d:Int):NrmS (o5 a d):=zn _
theorem uF(a:List PSpan)(d:Int):NrmS (pN a d):=zn _
theorem Fc(a:List PSpan)(d:Int)(ha:a.length<2^30):kP 218 [.ls (a.map aU),iV d] (.ls ((o5 a d).map aU)):=by
  have h:kP 268 [.ls (a.map aU),.ps [aU ⟨0,d⟩] true] (.ls ((o5 a d).map aU)):=(Qe a [⟨0,d⟩] ha (by simp)).onArgs (.cons (Le.refl _) (.cons (Le.ps _ _ rfl) .nil))
  exact bo Tryz.func218<|Kp 4 h<|Kf 0<|bY<|aW<|(o5 a d).map aU
theorem RY(a:List PSpan)(d:Int)(ha:a.length<2^30):kP 216 [.ls (a.map aU),iV d] (.ls ((pN a d).map aU)):=by
  have h0:=Fc a d ha
  have hl:=(sn a d).len
  have h:kP 266 [.ls ((o5 a d).map aU),.ps [aU ⟨d,1048577⟩] true] (.ls ((pN a d).map aU)):=(OL (o5 a d) [⟨d,1048577⟩] (by omega) (by simp)).onArgs (.cons (Le.refl _) (.cons (Le.ps _ _ rfl) .nil))
  exact bo Tryz.func216<|Kp 2 h0<|Kp 2 h<|Kf 0<|bY<|aW<|(pN a d).map aU
noncomputable def sy(k:Int):Bool:=ae k 7||ae k 9
noncomputable def lU(k:Int):Bool:=sy k||ae k 8
noncomputable def sK(k:Int):AV:=match sy k with|true=>.func (.func 216) [] []|false=>match ae k 8 with|true=>.func (.func 218) [] []|false=>.nilf
theorem zM(k:Int):eD (some .nilf) true (bx false 1 [(0,1)] (iV k) [⟨iV 7,.func (.func 216) [] [],0⟩,⟨iV 9,.func (.func 216) [] [],1⟩,⟨iV 8,.func (.func 218) [] [],2⟩] 0)=some (.tuple [sK k,.bool (lU k)]):=by
  unfold sK lU sy
  simp only[bx,qG,Ha,kN]
  cases h1:ae k 7<;>cases h2:ae k 9<;>cases h3:ae k 8<;>rfl
theorem OR{k:Int}(h:sy k=true):Le (.func (.func 216) [] []) (sK k):=by unfold sK;rw[h];exact Le.refl _
theorem S2{k:Int}(h:sy k=false)(h2:lU k=true):Le (.func (.func 218) [] []) (sK k):=by
  unfold lU at h2;rw[h,Bool.false_or]at h2
  unfold sK;rw[h,h2];exact Le.refl _
noncomputable def OS:List AEnt:=[⟨iV 7,.func (.func 216) [] [],0⟩,⟨iV 9,.func (.func 216) [] [],1⟩,⟨iV 8,.func (.func 218) [] [],2⟩]
theorem S0(x:PItem):kD 141 [] (av [.row 25 false 0 [eI x]]) (.map 1) (av [.row 25 false 0 [eI x],.map OS 3]):=by
  exact dE Tryz.func141 fun a=>Kf 6 a
theorem S1(s:PStart)(d o:PDeed):kD 141 [] (av [.row 3 false 0 [ar s],.row 28 false 0 [aK d],.row 28 false 0 [aK o]]) (.map 3) (av [.row 3 false 0 [ar s],.row 28 false 0 [aK d],.row 28 false 0 [aK o],.map OS 3]):=by
  exact dE Tryz.func141 fun a=>Kf 6 a
noncomputable def rf(x:PItem)(a i:Int):Bool:=ae x.act a&&(match ae x.kind 11 with|true=>ae x.item i|false=>lU x.kind&&(ae x.item i||ae x.item (-1)))
theorem M4(x:PItem)(a i:Int):kP 142 [eI x,iV a,iV i] (.bool (rf x a i)):=by
  have hlk:=zM
  have rr0 b' (h:(rf x a i)=b':=by unfold rf;generalize ae x.act a=p1 at *;generalize ae x.kind 11=p2 at *;generalize ae x.item i=p3 at *;generalize ae x.item (-1)=p4 at *;generalize lU x.kind=p5 at *;simp only[aS,aw,bS, *]):=h;let q:=[az [iV x.kind,aW (x.at_.map aY),aW (x.to.map aY),iV x.where_,iV x.nth_,iV x.unit.act,iV x.unit.item,iV x.unit.n,iV x.unit.kind,aV x.unit.label,aW (x.unit.head.map aQ),aW (x.unit.words.map aQ),aW (x.unit.kids.map aq),aW (x.old.map nK),aW (x.new.map nK),aV x.label,aV x.for_,iV x.start.kind,iV x.start.day,aV x.start.event,iV x.act,iV x.item,iV x.day,aV x.event,aW (x.by_.map NO)]];let q1:=bQ (aT 216) [] [];exact bo Tryz.func142<|Kc 5 x.act a (fun _ _=>Ky 0<|rr0 false) fun _ _=>Kj 2 x.kind 11 (fun _ _=>Kf 4<|ct<|rr0<|ae x.item i) fun _ _=>M3 (.efx true (AV.map 1)<|av [aZ 25 false 0 q,AObj.map [AEnt.mk (iV 7) q1 0,AEnt.mk (iV 9) q1 1,AEnt.mk (iV 8) (bQ (aT 218) [] []) 2] 3]) (et rt ti) (et (ax<|some<|aZ 25 false 0 q) ti) (S0 x)<|K1 1 (.look<|dg [sK x.kind,dQ<|lU x.kind]) (hlk x.kind)<|Kb 6 (lU x.kind) (fun b=>Kt 0 b<|Kt 0 b<|Kt 0 b<|Kt 0 b<|Kj 0 x.item i (fun c _=>Mt c<|Mt c<|Mt b<|MV c<|MV b<|Ky 0<|rr0 true) fun c _=>Kh 0 c<|Kh 0 c<|Kt 0 b<|My c<|MV b<|Kf 0<|ct<|rr0<|ae x.item (-1)) fun b=>Mh b<|Mh b<|Mh b<|Mh b<|Mh b<|My b<|Ky 0<|rr0 false
noncomputable abbrev g0(nm:bZ):AObj:=.row 1 false 0 [.str nm]
noncomputable def sd(nm:bZ)(d:PDeed):Bool:=ae d.it.kind 10&&eV d.it.event nm
theorem Rq(nm:bZ)(d:PDeed):kD 267 [aK d,.ptr 0 0 0 0] (av [g0 nm]) (.bool (sd nm d)) (av [g0 nm]):=by
  let q:=av [aZ 1 false 0 [aV nm]];exact CQ Tryz.func267<|Kj 6 d.it.kind 10 (fun a _=>Kt 0 a<|Kt 0 a<|Kt 0 a<|Kt 0 a<|Ku 0 a<|K1 0 (.frz 1 [3]) (et rt ti)<|Mf<|et (by unfold sd;generalize ae d.it.kind 10=p1 at *;generalize eV d.it.event nm=p2 at *;simp only[aS,aw,bS, *]:(AV.bool (eV d.it.event nm))=(AV.bool (sd nm d)))<|ax q) fun a _=>Mh a<|Mh a<|Mh a<|Mh a<|My a<|K1 0 (.frz 1 [3]) (et rt ti)<|Mf<|et (by unfold sd;generalize ae d.it.kind 10=p1 at *;generalize eV d.it.event nm=p2 at *;simp only[aS,aw,bS, *]:(AV.bool false)=(AV.bool (sd nm d)))<|ax q
noncomputable def jd(nm:bZ):List PDeed->Nat->Int
  |[],_=> -1
  |d::r,i=>match sd nm d with|true=>Int.ofNat i|false=>jd nm r (i+1)
theorem Ly(nm:bZ):∀(l:List PDeed)(i:Nat),jd nm l i<Int.ofNat (i+l.length)/\(0<=jd nm l i\/jd nm l i= -1)
  |[],i=>⟨by simp only[jd,oN];omega,.inr rfl⟩
  | d::r,i=>by
    have:=Ly nm r (i+1)
    cases h:sd nm d<;>simp only[jd,h,oN,lC]at * <;>omega
theorem YO{nm:bZ}{d:PDeed}{r:List PDeed}{i:Nat}(h:sd nm d=true):jd nm (d::r) i=Int.ofNat i:=by simp only[jd,h]
theorem YP{nm:bZ}{d:PDeed}{r:List PDeed}{i:Nat}(h:sd nm d=false):jd nm (d::r) i=jd nm r (i+1):=by simp only[jd,h]
theorem CM(nm:bZ)(l:List PDeed)(hl:l.length<2^40):kD 121 [.ls (l.map aK),.func (.func 267) [] [.ptr 0 0 0 0]] (av [g0 nm]) (iV (jd nm l 0)) (av [g0 nm]):=by
  let q:=av [aZ 1 false 0 [aV nm]];exact CQ Tryz.func121<|Kl 2 7 (ln aK l)<|Mg 0<|tw aK l [0,1,7,8] (fun a _=>([aW<|l.map aK,bQ (aT 267) [] [au 0 0 0 0],nV l.length,nV a],[aZ 1 false 0 [aV nm]])) (fun a=>jd nm l (0:Nat)=jd nm a (l.length-a.length)) (by(rw[Nat.sub_self])) (fun _ _ _ _ _ a b=>Kh 0 a<|Kf 0<|et (by(rw[b];rfl):(iV (-1))=(iV (jd nm l 0)))<|ax q) fun a _ b _ c d e f g _ h i=>have:=iC b f;Kt 0 g<|Kx 4 h<|Ke 0 (Rq nm c)<|Mb (sd nm c) (fun _=>Kf 1<|et (by(rw[i,YO (by assumption)];congr 2;have z:=IA (b.trans f) (by simp) (by simp only[lC];omega:(l.length-(d.length+1))+(c::d).length=l.length);exact z):(nV a)=(iV (jd nm l 0)))<|ax q) fun _=>Kl 0 18 (dU a)<|Kf 0<|e<|by(rw[i,YP (by assumption)];congr 1;have:=iC b f;simp only[lC];omega)
theorem RU(d:Int):kP 216 [.nils,iV d] (.ls ((pN [] d).map aU)):=(RY [] d (by simp)).onArgs (.cons Le.nils (.cons (Le.refl _) .nil))
theorem Jd(nm:bZ)(l:List PDeed)(hl:l.length<2^40)(h:aB (jd nm l 0) 0=true):kP 217 [.str nm,.ls (l.map aK)] (.tuple [iV 0,.bool false]):=by
  exact bo Tryz.func217<|Ke 4 (CM nm l hl)<|Kt 2 h<|Kf 1<|bY<|dg [iV 0,dQ false]
theorem Je(nm:bZ)(l:List PDeed)(hl:l.length<2^40)(h:aB (jd nm l 0) 0=false):kP 217 [.str nm,.ls (l.map aK)] (.tuple [iV (gD l (jd nm l 0).toNat).it.day,.bool true]):=by
  have g1:=aE h
  have g2:=(Ly nm l 0).1
  exact bo Tryz.func217<|Ke 4 (CM nm l hl)<|Kh 2 h<|Kl 1 13 (BU (x:=jd nm l 0) oA)<|Mx (bJ aK (by(simp only[oN,lM,lS]at *;omega):(jd nm l 0).toNat<(l).length))<|Kf 4<|bY<|dg [iV (gD l (jd nm l 0).toNat).it.day,dQ true]
noncomputable def lH(s:PStart)(l:List PDeed):List PSpan:=match ae s.kind 1 with|true=>pN [] s.day|false=>match ae s.kind 3 with|true=>(match aB (jd s.event l 0) 0 with|true=>[]|false=>pN [] (gD l (jd s.event l 0).toNat).it.day)|false=>[]
theorem Nm(s:PStart)(l:List PDeed)(hl:l.length<2^40)(hi:aB (jd s.event l 0) 0=true):kP 139 [ar s,.ls (l.map aK)] (.ls ((lH s l).map aU)):=by
  have he:=Jd s.event l hl hi
  have e:lH s l=match ae s.kind 1 with|true=>pN [] s.day|false=>[]:=(by unfold lH;rw[hi];cases ae s.kind 1<;>cases ae s.kind 3<;>rfl)
  rw[e]
  have rr0 b' (h:((match ae s.kind 1 with|true=>pN [] s.day|false=>[]).map aU)=b':=by generalize ae s.kind 1=p1 at *;(rw[h0]);try rfl):=h;exact bo Tryz.func139<|Kj 5 s.kind 1 (fun h0 _=>Kp 1 (RU s.day)<|Kf 0<|cn<|rr0<|(pN [] s.day).map aU) fun h0 _=>Kj 1 s.kind 3 (fun _ _=>Kp 2 he<|Kf 7 (Le.lsn<|rr0 []:Le _ (ak))) fun _ _=>Kf 0 (Le.lsn<|rr0 []:Le _ (ak))
theorem Nn(s:PStart)(l:List PDeed)(hl:l.length<2^40)(hi:aB (jd s.event l 0) 0=false):kP 139 [ar s,.ls (l.map aK)] (.ls ((lH s l).map aU)):=by
  have he:=Je s.event l hl hi
  have e:lH s l=match ae s.kind 1 with|true=>pN [] s.day|false=>match ae s.kind 3 with|true=>pN [] (gD l (jd s.event l 0).toNat).it.day |false=>[]:=(by unfold lH;rw[hi])
  rw[e]
  have rr0 b' (h:((match ae s.kind 1 with|true=>pN [] s.day|false=>match ae s.kind 3 with|true=>pN [] (gD l (jd s.event l 0).toNat).it.day |false=>[]).map aU)=b':=by generalize ae s.kind 1=p1 at *;generalize ae s.kind 3=p3 at *;(rw[h0]);(first|rw[h1]|skip);try rfl):=h;exact bo Tryz.func139<|Kj 5 s.kind 1 (fun h0 _=>Kp 1 (RU s.day)<|Kf 0<|cn<|rr0<|(pN [] s.day).map aU) fun h0 _=>Kj 1 s.kind 3 (fun h1 _=>Kp 2 he<|Kp 7 (RU (gD l (jd s.event l 0).toNat).it.day)<|Kf 0<|cn<|rr0<|(pN [] (gD l (jd s.event l 0).toNat).it.day).map aU) fun h1 _=>Kf 0 (Le.lsn<|rr0 []:Le _ (ak))
theorem JU(s:PStart)(l:List PDeed)(hl:l.length<2^40):kP 139 [ar s,.ls (l.map aK)] (.ls ((lH s l).map aU)):=by
  cases hi:aB (jd s.event l 0) 0
  · exact Nn s l hl hi
  · exact Nm s l hl hi
noncomputable def sB(d o:PDeed)(days:List PSpan):List PSpan:=match lU o.it.kind&&rf o.it d.act d.item with|true=>(match sy o.it.kind with|true=>pN days o.it.day|false=>o5 days o.it.day)|false=>days
noncomputable def mq(d:PDeed):List PDeed->List PSpan->List PSpan
  |[],days=>days
  |o::r,days=>mq d r (sB d o days)
noncomputable def dF(s:PStart)(d:PDeed)(l:List PDeed):List PSpan:=match aB d.it.kind 0||aB 6 d.it.kind with|true=>[]|false=>mq d l (lH (effS s d.it.start) l)
theorem Np(s:PStart)(l:List PDeed):(lH s l).length<=1048577:=by
  have h:=fun d=>(uF [] d).len
  unfold lH
  cases ae s.kind 1<;>cases ae s.kind 3<;>cases aB (jd s.event l 0) 0<;>simp only[lN]<;>first|exact h _|omega
theorem m9(s:PStart)(d:PDeed)(l:List PDeed)(hl:l.length<2^40):kP 96 [ar s,aK d,.ls (l.map aK)] (.ls ((dF s d l).map aU)):=by
  have hlk:=zM
  have hle1:∀k,sy k=true->Le (.func (.func 216) [] []) (sK k):=fun k h=>OR h
  have hle2:∀k,sy k=false->lU k=true->Le (.func (.func 218) [] []) (sK k):=fun k h h2=>S2 h h2
  have hil:=Np (effS s d.it.start) l
  have hin:∀b,(aB d.it.kind 0||aB 6 d.it.kind)=b->dF s d l=match b with|true=>[]|false=>mq d l (lH (effS s d.it.start) l):=fun b h=>by unfold dF;rw[h]
  have hst:∀(o:PDeed)(r:List PDeed)(days:List PSpan),mq d (o::r) days=mq d r (sB d o days):=fun o r days=>rfl
  have rr0 b' (h:((dF s d l).map aU)=b':=by first|(rw[hin true (by simp only[aS,aw,bS, *];try rfl)];rfl)|(rw[hin false (by simp only[aS,aw,bS, *];try rfl)];first|exact congrArg _ hj0.2|exact congrArg _ hj0.2.symm|(rw[hj0.2];rfl))):=h;let q1:=[az [iV d.act,iV d.item,iV d.day,iV d.it.kind,aW (d.it.at_.map aY),aW (d.it.to.map aY),iV d.it.where_,iV d.it.nth_,iV d.it.unit.act,iV d.it.unit.item,iV d.it.unit.n,iV d.it.unit.kind,aV d.it.unit.label,aW (d.it.unit.head.map aQ),aW (d.it.unit.words.map aQ),aW (d.it.unit.kids.map aq),aW (d.it.old.map nK),aW (d.it.new.map nK),aV d.it.label,aV d.it.for_,iV d.it.start.kind,iV d.it.start.day,aV d.it.start.event,iV d.it.act,iV d.it.item,iV d.it.day,aV d.it.event,aW (d.it.by_.map NO)]];let q2:=[az [iV s.kind,iV s.day,aV s.event]];let q3:=bQ (aT 216) [] [];exact bo Tryz.func96<|Ka 7 d.it.kind 0 (fun a _=>Mt a<|Mt a<|Mt a<|MV a<|Kf 1 (Le.lsn<|rr0 []:Le _ (ak))) fun a _=>Kh 0 a<|Kh 0 a<|Kh 0 a<|Kw 0 a<|Mb (aB 6 d.it.kind) (fun a=>have:=aA a;Kf 0 (Le.lsn<|rr0 []:Le _ (ak))) fun a=>have:=aE a;Kp 3 (Hl s d.it.start)<|Kp 0 (JU (effS s d.it.start) l hl)<|Kl 2 30 (ln aK l)<|Mg 0<|SH (0:Nat) l (lH (effS s d.it.start) l) [4,7,29,30,31] (fun a _ c=>([au 1 0 0 0,aW<|c.map aU,aW<|l.map aK,nV l.length,nV a],[aZ 3 false 0 [az [iV s.kind,iV s.day,aV s.event]],aZ 28 false 0 [az [iV d.act,iV d.item,iV d.day,iV d.it.kind,aW<|d.it.at_.map aY,aW<|d.it.to.map aY,iV d.it.where_,iV d.it.nth_,iV d.it.unit.act,iV d.it.unit.item,iV d.it.unit.n,iV d.it.unit.kind,aV d.it.unit.label,aW<|d.it.unit.head.map aQ,aW<|d.it.unit.words.map aQ,aW<|d.it.unit.kids.map aq,aW<|d.it.old.map nK,aW<|d.it.new.map nK,aV d.it.label,aV d.it.for_,iV d.it.start.kind,iV d.it.start.day,aV d.it.start.event,iV d.it.act,iV d.it.item,iV d.it.day,aV d.it.event,aW<|d.it.by_.map NO]]])) (fun a c e=>(l).drop a=c/\e.length<=1048577/\mq d l (lH (effS s d.it.start) l)=mq d c e) (fun _ a _=>a.length) (et rfl<|by(exact⟨hil,rfl⟩)) fun a c e f g=>Mc c (fun a=>have c:=fN f.1 a;have hj0:=ie (J:=fun a c=>c.length<=1048577/\mq d l (lH (effS s d.it.start) l)=mq d a c) (a:=e) a f.2;Kh 0 c<|Kf 1<|cn<|rr0<|e.map aU) fun c i j=>let m:=[az [iV c.act,iV c.item,iV c.day,iV c.it.kind,aW<|c.it.at_.map aY,aW<|c.it.to.map aY,iV c.it.where_,iV c.it.nth_,iV c.it.unit.act,iV c.it.unit.item,iV c.it.unit.n,iV c.it.unit.kind,aV c.it.unit.label,aW<|c.it.unit.head.map aQ,aW<|c.it.unit.words.map aQ,aW<|c.it.unit.kids.map aq,aW<|c.it.old.map nK,aW<|c.it.new.map nK,aV c.it.label,aV c.it.for_,iV c.it.start.kind,iV c.it.start.day,aV c.it.start.event,iV c.it.act,iV c.it.item,iV c.it.day,aV c.it.event,aW<|c.it.by_.map NO]];have n:=fT f.1 j;have:=aA n;have p:=fL (enc:=aK) f.1 j;have hj0:=cb (J:=fun a c=>c.length<=1048577/\mq d l (lH (effS s d.it.start) l)=mq d a c) (a:=e) j f.2;Kt 0 n<|Mx p<|Mg 2<|M3 (.efx true (AV.map 3)<|av [aZ 3 false 0 q2,aZ 28 false 0 q1,aZ 28 false 0 m,AObj.map [AEnt.mk (iV 7) q3 0,AEnt.mk (iV 9) q3 1,AEnt.mk (iV 8) (bQ (aT 218) [] []) 2] 3]) (kF rt rt rt ti) (kF (ax<|some<|aZ 28 false 0 m) (ax<|some<|aZ 28 false 0 q1) (ax<|some<|aZ 3 false 0 q2) ti) (S1 s d c)<|K1 2 (.look<|dg [sK c.it.kind,dQ<|lU c.it.kind]) (hlk c.it.kind)<|Kb 6 (lU c.it.kind) (fun m=>Kt 0 m<|Kt 0 m<|Kt 0 m<|Kt 0 m<|Kt 0 m<|Kt 0 m<|Mp (M4 c.it d.act d.item)<|MV m<|Mb (rf c.it d.act d.item) (fun _=>Ks 4 (sy c.it.kind) (fun m=>Ml 53 (hle1 c.it.kind m)<|Mp (RY e c.it.day oA)<|Kl 1 59 (dU a)<|K1 0 (.frz 2 [4,7,29,30,31]) (ch rt rt ti)<|Mf<|g (a+1) i (pN e c.it.day) (et (bH f.1 j)<|by exact⟨(uF _ _).len,by rw[hj0.2,hst];simp only[sB, *];rfl⟩)<|fZ j) fun n=>Ml 53 (hle2 c.it.kind n m)<|Mp (Fc e c.it.day oA)<|Kl 1 59 (dU a)<|K1 0 (.frz 2 [4,7,29,30,31]) (ch rt rt ti)<|Mf<|g (a+1) i (o5 e c.it.day) (et (bH f.1 j)<|by exact⟨(sn _ _).len,by rw[hj0.2,hst];simp only[sB, *];rfl⟩)<|fZ j) fun _=>Kl 0 59 (dU a)<|K1 0 (.frz 2 [4,7,29,30,31]) (ch rt rt ti)<|Mf<|g (a+1) i e (et (bH f.1 j)<|by exact⟨hj0.1,by rw[hj0.2,hst];simp only[sB,aS,aw,bS, *];try rfl⟩)<|fZ j) fun c=>Mh c<|Mh c<|Mh c<|Mh c<|Mh c<|Mh c<|My c<|Kl 1 59 (dU a)<|K1 0 (.frz 2 [4,7,29,30,31]) (ch rt rt ti)<|Mf<|g (a+1) i e (et (bH f.1 j)<|by exact⟨hj0.1,by rw[hj0.2,hst];simp only[sB,aS,aw,bS, *];try rfl⟩)<|fZ j
noncomputable abbrev i9(d:Int):AObj:=.row 1 false 0 [iV d]
noncomputable abbrev gN:AObj:=.row 1 false 0 [.nils]
noncomputable abbrev fD(i ep n:Nat):AObj:=.row 1 false 0 [.slice i ep 0 n none]
noncomputable abbrev dw(m:List (Int×PStart)):AObj:=.map (b6 ar m 0) m.length
noncomputable abbrev cJ(d:PDeed):AObj:=.row 28 false 0 [aK d]
noncomputable abbrev eT(ep:Nat)(l:List PDeed):AObj:=.row 28 true ep (l.map aK)
def dO:PStart:=⟨0,0,[]⟩
def dW(m:List (Int×PStart))(k:Int):PStart:=(gO k m).getD dO
theorem zN(m:List (Int×PStart))(k:Int):eD (some (.agg [iV 0,iV 0,.str []])) false (bx false 1 [(0,1)] (iV k) (b6 ar m 0) 0)=some (ar (dW m k)):=by
  rw[zR]
  cases h:gO k m<;>simp only[dW,h,Option.getD]<;>rfl
theorem CZ(m:List (Int×PStart))(a:PAct):qj (b6 ar m 0) m.length (iV a.number) (.agg [iV a.start.kind,iV a.start.day,.str a.start.event]) (bx false 1 [(0,1)] (iV a.number) (b6 ar m 0) 0)=some (b6 ar (lW a.number a.start m) 0,(lW a.number a.start m).length):=CX (f:=ar) a.number a.start m
def yZ(l:List PAct)(m:List (Int×PStart)):List (Int×PStart):=l.foldl (fun m a=>lW a.number a.start m) m
theorem GL(s:PStart)(d:PDeed)(l:List PDeed):NrmS (dF s d l):=by
  have h1:∀(s:PStart),NrmS (lH s l):=fun s=>by
    unfold lH
    cases ae s.kind 1<;>cases ae s.kind 3<;>cases aB (jd s.event l 0) 0<;>first|exact yq|exact uF _ _
  have h2:∀(r:List PDeed)(days:List PSpan),NrmS days->NrmS (mq d r days):=by
    intro r
    induction r with
    |nil=>intro days h;exact h
    | cons o r ih=>
      intro days h
      refine ih _ ?_
      unfold sB
      cases lU o.it.kind&&rf o.it d.act d.item<;>cases sy o.it.kind<;>first|exact h|exact uF _ _|exact sn _ _
  unfold dF
  cases aB d.it.kind 0||aB 6 d.it.kind
  · exact h2 l _ (h1 _)
  · exact yq
theorem tW(s:PStart)(d:PDeed)(l:List PDeed)(day:Int):kP 57 [.ls ((dF s d l).map aU),iV day] (.bool (iM (dF s d l) day)):=by
  have hn:=GL s d l
  have h:=HB (dF s d l) day (nl hn.len (by decide))
  rwa[show jx (dF s d l)=dF s d l from(TC hn).symm]at h
noncomputable def Xq(p:bZ)(d:PDeed):Bool:=eV d.it.for_ []||eV d.it.for_ p
noncomputable def Ch(day:Int)(p:bZ)(m:List (Int×PStart))(ds:List PDeed)(d:PDeed):Bool:=Xq p d&&iM (dF (dW m d.act) d ds) day
noncomputable def sj(day:Int)(p:bZ)(m:List (Int×PStart))(ds l:List PDeed):List PDeed:=l.filter fun d=>gZ d.it.kind&&Ch day p m ds d
theorem aae(d:PDeed)(ss:List PSpan)(day:Int)(p:bZ)(m:List (Int×PStart))(hc:kP 57 [.ls (ss.map aU),iV day] (.bool false)):kD 56 [aK d,.ls (ss.map aU),.ptr 1 0 0 0,.ptr 0 0 0 0,.ptr 2 0 0 0] (av [i9 day,g0 p,gN,dw m,cJ d]) (.tuple []) (av [i9 day,g0 p,gN,dw m,cJ d]):=by
  exact dE Tryz.func56 fun a=>Kb 5 (eV d.it.for_ (ByteArray.mk #[]).data.toList) (fun b=>Mt b<|Mt b<|Mt b<|Mt b<|MV b<|Kp 2 hc<|K1 1 (.frz 5 []) (wK rt (tM m.length 5<|aG (f:=ar) (fun _=>rfl) m 0) rt rt rt ti)<|Mf a) fun b=>Kh 0 b<|Kh 0 b<|Kh 0 b<|Kh 0 b<|Kw 0 b<|Kb 0 (eV d.it.for_ p) (fun b=>Kt 0 b<|Kt 0 b<|Mp hc<|MV b<|K1 0 (.frz 5 []) (wK rt (tM m.length 5<|aG (f:=ar) (fun _=>rfl) m 0) rt rt rt ti)<|Mf a) fun b=>Mh b<|Mh b<|My b<|K1 0 (.frz 5 []) (wK rt (tM m.length 5<|aG (f:=ar) (fun _=>rfl) m 0) rt rt rt ti)<|Mf a
theorem aad(d:PDeed)(ss:List PSpan)(day:Int)(p:bZ)(m:List (Int×PStart))(h1:eV d.it.for_ []=false)(h2:eV d.it.for_ p=false):kD 56 [aK d,.ls (ss.map aU),.ptr 1 0 0 0,.ptr 0 0 0 0,.ptr 2 0 0 0] (av [i9 day,g0 p,gN,dw m,cJ d]) (.tuple []) (av [i9 day,g0 p,gN,dw m,cJ d]):=by
  exact dE Tryz.func56 fun a=>Kh 5 h1<|Kh 0 h1<|Kh 0 h1<|Kh 0 h1<|Kh 0 h1<|Kw 0 h1<|Kh 0 h2<|Mh h2<|Mh h2<|My h2<|K1 0 (.frz 5 []) (wK rt (tM m.length 5<|aG (f:=ar) (fun _=>rfl) m 0) rt rt rt ti)<|Mf a
theorem aac(d:PDeed)(ss:List PSpan)(day:Int)(p:bZ)(m:List (Int×PStart))(hc:kP 57 [.ls (ss.map aU),iV day] (.bool true))(h1:eV d.it.for_ []=true):kD 56 [aK d,.ls (ss.map aU),.ptr 1 0 0 0,.ptr 0 0 0 0,.ptr 2 0 0 0] (av [i9 day,g0 p,gN,dw m,cJ d]) (.tuple []) (av [i9 day,g0 p,fD 5 0 1,dw m,cJ d,eT 0 [d]]):=by
  exact dE Tryz.func56 fun a=>Kt 5 h1<|Mt h1<|Mt h1<|Mt h1<|Mt h1<|MV h1<|Kp 2 hc<|K1 6 (.ren [0,1,2,3,4,6,5] [3] []) (tN m.length<|aG (f:=ar) (fun _=>rfl) m 0)<|M1 (.frz 6 []) (BA rt rt (tM m.length 6<|aG (f:=ar) (fun _=>rfl) m 0) rt rt rt ti)<|Mf a
theorem aab(d:PDeed)(ss:List PSpan)(day:Int)(p:bZ)(m:List (Int×PStart))(hc:kP 57 [.ls (ss.map aU),iV day] (.bool true))(h1:eV d.it.for_ []=false)(h2:eV d.it.for_ p=true):kD 56 [aK d,.ls (ss.map aU),.ptr 1 0 0 0,.ptr 0 0 0 0,.ptr 2 0 0 0] (av [i9 day,g0 p,gN,dw m,cJ d]) (.tuple []) (av [i9 day,g0 p,fD 5 0 1,dw m,cJ d,eT 0 [d]]):=by
  exact dE Tryz.func56 fun a=>Kh 5 h1<|Kh 0 h1<|Kh 0 h1<|Kh 0 h1<|Kh 0 h1<|Kw 0 h1<|Kt 0 h2<|Kt 0 h2<|Kt 0 h2<|Mp hc<|MV h2<|K1 5 (.ren [0,1,2,3,4,6,5] [3] []) (tN m.length<|aG (f:=ar) (fun _=>rfl) m 0)<|M1 (.frz 6 []) (BA rt rt (tM m.length 6<|aG (f:=ar) (fun _=>rfl) m 0) rt rt rt ti)<|Mf a
theorem aaa(d:PDeed)(ss:List PSpan)(day:Int)(p:bZ)(m:List (Int×PStart))(ep n:Nat)(out:List PDeed)(hc:kP 57 [.ls (ss.map aU),iV day] (.bool false)):kD 56 [aK d,.ls (ss.map aU),.ptr 1 0 0 0,.ptr 0 0 0 0,.ptr 2 0 0 0] (av [i9 day,g0 p,fD 4 ep n,dw m,eT ep out,cJ d]) (.tuple []) (av [i9 day,g0 p,fD 4 ep n,dw m,eT ep out,cJ d]):=by
  exact dE Tryz.func56 fun a=>Kb 5 (eV d.it.for_ (ByteArray.mk #[]).data.toList) (fun b=>Mt b<|Mt b<|Mt b<|Mt b<|MV b<|Kp 2 hc<|K1 1 (.frz 6 []) (BA rt (tR 28 true ep 6<|aX xg out) (tM m.length 6<|aG (f:=ar) (fun _=>rfl) m 0) rt rt rt ti)<|Mf a) fun b=>Kh 0 b<|Kh 0 b<|Kh 0 b<|Kh 0 b<|Kw 0 b<|Kb 0 (eV d.it.for_ p) (fun b=>Kt 0 b<|Kt 0 b<|Mp hc<|MV b<|K1 0 (.frz 6 []) (BA rt (tR 28 true ep 6<|aX xg out) (tM m.length 6<|aG (f:=ar) (fun _=>rfl) m 0) rt rt rt ti)<|Mf a) fun b=>Mh b<|Mh b<|My b<|K1 0 (.frz 6 []) (BA rt (tR 28 true ep 6<|aX xg out) (tM m.length 6<|aG (f:=ar) (fun _=>rfl) m 0) rt rt rt ti)<|Mf a
theorem Z9(d:PDeed)(ss:List PSpan)(day:Int)(p:bZ)(m:List (Int×PStart))(ep n:Nat)(out:List PDeed)(h1:eV d.it.for_ []=false)(h2:eV d.it.for_ p=false):kD 56 [aK d,.ls (ss.map aU),.ptr 1 0 0 0,.ptr 0 0 0 0,.ptr 2 0 0 0] (av [i9 day,g0 p,fD 4 ep n,dw m,eT ep out,cJ d]) (.tuple []) (av [i9 day,g0 p,fD 4 ep n,dw m,eT ep out,cJ d]):=by
  exact dE Tryz.func56 fun a=>Kh 5 h1<|Kh 0 h1<|Kh 0 h1<|Kh 0 h1<|Kh 0 h1<|Kw 0 h1<|Kh 0 h2<|Mh h2<|Mh h2<|My h2<|K1 0 (.frz 6 []) (BA rt (tR 28 true ep 6<|aX xg out) (tM m.length 6<|aG (f:=ar) (fun _=>rfl) m 0) rt rt rt ti)<|Mf a
theorem Z8(d:PDeed)(ss:List PSpan)(day:Int)(p:bZ)(m:List (Int×PStart))(ep n:Nat)(out:List PDeed)(hn:n=out.length)(hn2:n<2^20)(hc:kP 57 [.ls (ss.map aU),iV day] (.bool true))(h1:eV d.it.for_ []=true):kD 56 [aK d,.ls (ss.map aU),.ptr 1 0 0 0,.ptr 0 0 0 0,.ptr 2 0 0 0] (av [i9 day,g0 p,fD 4 ep n,dw m,eT ep out,cJ d]) (.tuple []) (av [i9 day,g0 p,fD 4 (ep+1) (n+1),dw m,eT (ep+1) (out++[d]),cJ d]):=by
  exact dE Tryz.func56 fun a=>Kt 5 h1<|Mt h1<|Mt h1<|Mt h1<|Mt h1<|MV h1<|Kp 2 hc<|K1 4 .app (ch (ax ep) (by(rw[lM];exact hn):n=(out.map aK).length) (by exact dK (m:=2^21) (by omega) (by decide) (by decide):small (n+1) 392=true))<|M1 (.obj 4<|aZ 28 true (ep+1)<|(out++[d]).map aK) (congrArg (aZ 28 true<|ep+1)<|dJ (f:=aK) (l:=out) (ws:=[d]))<|K1 0 (.frz 6 []) (BA rt (tR 28 true (ep+1) 6<|aX xg<|out++[d]) (tM m.length 6<|aG (f:=ar) (fun _=>rfl) m 0) rt rt rt ti)<|Mf a
theorem Z7(d:PDeed)(ss:List PSpan)(day:Int)(p:bZ)(m:List (Int×PStart))(ep n:Nat)(out:List PDeed)(hn:n=out.length)(hn2:n<2^20)(hc:kP 57 [.ls (ss.map aU),iV day] (.bool true))(h1:eV d.it.for_ []=false)(h2:eV d.it.for_ p=true):kD 56 [aK d,.ls (ss.map aU),.ptr 1 0 0 0,.ptr 0 0 0 0,.ptr 2 0 0 0] (av [i9 day,g0 p,fD 4 ep n,dw m,eT ep out,cJ d]) (.tuple []) (av [i9 day,g0 p,fD 4 (ep+1) (n+1),dw m,eT (ep+1) (out++[d]),cJ d]):=by
  exact dE Tryz.func56 fun a=>Kh 5 h1<|Kh 0 h1<|Kh 0 h1<|Kh 0 h1<|Kh 0 h1<|Kw 0 h1<|Kt 0 h2<|Kt 0 h2<|Kt 0 h2<|Mp hc<|MV h2<|K1 3 .app (ch (ax ep) (by(rw[lM];exact hn):n=(out.map aK).length) (by exact dK (m:=2^21) (by omega) (by decide) (by decide):small (n+1) 392=true))<|M1 (.obj 4<|aZ 28 true (ep+1)<|(out++[d]).map aK) (congrArg (aZ 28 true<|ep+1)<|dJ (f:=aK) (l:=out) (ws:=[d]))<|K1 0 (.frz 6 []) (BA rt (tR 28 true (ep+1) 6<|aX xg<|out++[d]) (tM m.length 6<|aG (f:=ar) (fun _=>rfl) m 0) rt rt rt ti)<|Mf a
theorem Vu{day:Int}{p:bZ}{m:List (Int×PStart)}{ds:List PDeed}{d:PDeed}(h:Ch day p m ds d=false):kP 57 [.ls ((dF (dW m d.act) d ds).map aU),iV day] (.bool false)\/(eV d.it.for_ []=false/\eV d.it.for_ p=false):=by
  unfold Ch Xq at h
  have hz:=tW (dW m d.act) d ds day
  cases q:iM (dF (dW m d.act) d ds) day with
  |false=>rw[q]at hz;exact .inl hz
  |true=>rw[q,Bool.and_true,BO]at h;exact .inr h
theorem PC{day:Int}{p:bZ}{m:List (Int×PStart)}{ds:List PDeed}{d:PDeed}(h:Ch day p m ds d=true):kP 57 [.ls ((dF (dW m d.act) d ds).map aU),iV day] (.bool true)/\(eV d.it.for_ []=true\/(eV d.it.for_ []=false/\eV d.it.for_ p=true)):=by
  unfold Ch Xq at h
  obtain⟨h1,h2⟩:=ni.1 h
  have hz:=tW (dW m d.act) d ds day
  rw[h2]at hz
  refine⟨hz,?_⟩
  cases q:eV d.it.for_ []with
  |true=>exact .inl rfl
  |false=>rw[q,Bool.false_or]at h1;exact .inr ⟨rfl,h1⟩
theorem Ym(day:Int)(p:bZ)(m:List (Int×PStart))(ds:List PDeed)(d:PDeed)(hb:Ch day p m ds d=false):kD 56 [aK d,.ls ((dF (dW m d.act) d ds).map aU),.ptr 1 0 0 0,.ptr 0 0 0 0,.ptr 2 0 0 0] (av [i9 day,g0 p,gN,dw m,cJ d]) (.tuple []) (av [i9 day,g0 p,gN,dw m,cJ d]):=by
  rcases Vu hb with h|⟨h1,h2⟩
  · exact aae d _ day p m h
  · exact aad d _ day p m h1 h2
theorem aai(day:Int)(p:bZ)(m:List (Int×PStart))(ds:List PDeed)(d:PDeed)(hb:By (Ch day p m ds d) false):kD 56 [aK d,.ls ((dF (dW m d.act) d ds).map aU),.ptr 1 0 0 0,.ptr 0 0 0 0,.ptr 2 0 0 0] (av [i9 day,g0 p,gN,dw m,cJ d]) (.tuple []) (av [i9 day,g0 p,gN,dw m,cJ d]):=Ym day p m ds d hb
theorem aah(day:Int)(p:bZ)(m:List (Int×PStart))(ds:List PDeed)(d:PDeed)(hb:By (Ch day p m ds d) true):kD 56 [aK d,.ls ((dF (dW m d.act) d ds).map aU),.ptr 1 0 0 0,.ptr 0 0 0 0,.ptr 2 0 0 0] (av [i9 day,g0 p,gN,dw m,cJ d]) (.tuple []) (av [i9 day,g0 p,fD 5 0 1,dw m,cJ d,eT 0 [d]]):=by
  obtain⟨h,h1|⟨h1,h2⟩⟩:=PC hb
  · exact aac d _ day p m h h1
  · exact aab d _ day p m h h1 h2
theorem aag(day:Int)(p:bZ)(m:List (Int×PStart))(ds:List PDeed)(d:PDeed)(ep n:Nat)(out:List PDeed)(hb:By (Ch day p m ds d) false):kD 56 [aK d,.ls ((dF (dW m d.act) d ds).map aU),.ptr 1 0 0 0,.ptr 0 0 0 0,.ptr 2 0 0 0] (av [i9 day,g0 p,fD 4 ep n,dw m,eT ep out,cJ d]) (.tuple []) (av [i9 day,g0 p,fD 4 ep n,dw m,eT ep out,cJ d]):=by
  rcases Vu hb with h|⟨h1,h2⟩
  · exact aaa d _ day p m ep n out h
  · exact Z9 d _ day p m ep n out h1 h2
theorem aaf(day:Int)(p:bZ)(m:List (Int×PStart))(ds:List PDeed)(d:PDeed)(ep n:Nat)(out:List PDeed)(hb:By (Ch day p m ds d) true)(hn:n=out.length)(hn2:n<2^20):kD 56 [aK d,.ls ((dF (dW m d.act) d ds).map aU),.ptr 1 0 0 0,.ptr 0 0 0 0,.ptr 2 0 0 0] (av [i9 day,g0 p,fD 4 ep n,dw m,eT ep out,cJ d]) (.tuple []) (av [i9 day,g0 p,fD 4 (ep+1) (n+1),dw m,eT (ep+1) (out++[d]),cJ d]):=by
  obtain⟨h,h1|⟨h1,h2⟩⟩:=PC hb
  · exact Z8 d _ day p m ep n out hn hn2 h h1
  · exact Z7 d _ day p m ep n out hn hn2 h h1 h2
theorem PF{day:Int}{p:bZ}{m:List (Int×PStart)}{ds r:List PDeed}{d:PDeed}(h:gZ d.it.kind=false):sj day p m ds (d::r)=sj day p m ds r:=by simp only[sj,List.filter_cons,h,Bool.false_and];rfl
theorem PE{day:Int}{p:bZ}{m:List (Int×PStart)}{ds r:List PDeed}{d:PDeed}(h:Ch day p m ds d=false):sj day p m ds (d::r)=sj day p m ds r:=by simp only[sj,List.filter_cons,h,yu];rfl
theorem PD{day:Int}{p:bZ}{m:List (Int×PStart)}{ds r:List PDeed}{d:PDeed}(h:gZ d.it.kind=true)(h2:Ch day p m ds d=true):sj day p m ds (d::r)=d::sj day p m ds r:=by simp only[sj,List.filter_cons,h,h2];rfl
structure OnA(day:Int)(p:bZ)(m:List (Int×PStart))(ds r:List PDeed):Prop where
  f:sj day p m ds ds=sj day p m ds r
structure OnR(day:Int)(p:bZ)(m:List (Int×PStart))(ds r:List PDeed)(ep n:Nat)(out:List PDeed):Prop where
  len:n=out.length
  ep:ep+1=out.length
  small:out.length+r.length<=ds.length
  f:sj day p m ds ds=out++sj day p m ds r
theorem OnA.no{day:Int}{p:bZ}{m:List (Int×PStart)}{ds r:List PDeed}{d:PDeed}(h:OnA day p m ds (d::r))(ha:gZ d.it.kind=false):OnA day p m ds r:=⟨by rw[h.f,PF ha]⟩
theorem OnA.nil{day:Int}{p:bZ}{m:List (Int×PStart)}{ds r:List PDeed}{d:PDeed}(h:OnA day p m ds (d::r))(hb:Ch day p m ds d=false):OnA day p m ds r:=⟨by rw[h.f,PE hb]⟩
theorem OnA.new{day:Int}{p:bZ}{m:List (Int×PStart)}{ds r:List PDeed}{d:PDeed}{n:Nat}(h:OnA day p m ds (d::r))(hl:(d::r).length<=ds.length)(ha:gZ d.it.kind=true)(hb:Ch day p m ds d=true)(hn:n=1):OnR day p m ds r 0 n [d]:=⟨hn,rfl,by simp only[lC,lN]at *;omega,by rw[h.f,PD ha hb];rfl⟩
theorem OnR.no{day:Int}{p:bZ}{m:List (Int×PStart)}{ds r:List PDeed}{d:PDeed}{ep n:Nat}{out:List PDeed}(h:OnR day p m ds (d::r) ep n out)(ha:gZ d.it.kind=false):OnR day p m ds r ep n out:=⟨h.len,h.ep,by have:=h.small;simp only[lC]at this;omega,by rw[h.f,PF ha]⟩
theorem OnR.nil{day:Int}{p:bZ}{m:List (Int×PStart)}{ds r:List PDeed}{d:PDeed}{ep n:Nat}{out:List PDeed}(h:OnR day p m ds (d::r) ep n out)(hb:Ch day p m ds d=false):OnR day p m ds r ep n out:=⟨h.len,h.ep,by have:=h.small;simp only[lC]at this;omega,by rw[h.f,PE hb]⟩
theorem OnR.new{day:Int}{p:bZ}{m:List (Int×PStart)}{ds r:List PDeed}{d:PDeed}{ep n k:Nat}{out:List PDeed}(h:OnR day p m ds (d::r) ep n out)(ha:gZ d.it.kind=true)(hb:Ch day p m ds d=true)(hk:k=n+1):OnR day p m ds r (ep+1) k (out++[d]):=by
  have:=h.len;have:=h.ep;have:=h.small
  refine⟨?_,?_,?_,by rw[h.f,PD ha hb,qY];rfl⟩<;>simp only[lA,lC,lN]at * <;>omega
theorem OnR.done{day:Int}{p:bZ}{m:List (Int×PStart)}{ds:List PDeed}{ep n:Nat}{out:List PDeed}(h:OnR day p m ds [] ep n out):ep=(sj day p m ds ds).length -1/\n=(sj day p m ds ds).length/\out=sj day p m ds ds:=by
  have e:sj day p m ds ds=out:=by rw[h.f];exact ei _
  have:=h.len;have:=h.ep
  rw[e];exact⟨by omega,by omega,rfl⟩
theorem Wj{α:Type}{l r:List α}{j:Nat}{a:α}(h:l.drop j=a::r):(a::r).length<=l.length:=by rw[<-h,yn];omega
theorem VA{day:Int}{p:bZ}{m:List (Int×PStart)}{ds r:List PDeed}{d:PDeed}(h:sj day p m ds (d::r)=[])(ha:gZ d.it.kind=true):Ch day p m ds d=false:=by
  cases q:Ch day p m ds d with
  |false=>rfl
  |true=>rw[PD ha q]at h;cases h
theorem XA(gs:List PGaz)(L:List PAct)(ds:List PDeed)(day:Int)(p:bZ)(hL:L.length<10000)(hd:ds.length<100000)(ha:kP 77 [.ls (gs.map am)] (.ls (L.map ay)))(hi:kP 94 [.ls (gs.map am)] (.ls (ds.map aK)))(hE:sj day p (yZ L []) ds ds=[]):
    kD 55 [.ls (gs.map am),.func (.func 56) [] [.ptr 1 0 0 0,.ptr 0 0 0 0,.ptr 2 0 0 0]] (av [i9 day,g0 p,gN]) (.tuple []) (av [i9 day,g0 p,gN]):=by
  have hlk:=zN
  have hup:=CZ
  let q1:=[iV day];exact dE Tryz.func55 fun a=>Kp 2 ha<|Kl 0 13 (ln ay L)<|Mg 0<|L5 ay L ([]:List (Int×PStart)) [0,1,4,12,13,14] (fun a _ b=>([aW<|gs.map am,bQ (aT 56) [] [au 1 0 0 0,au 0 0 0 0,au 2 0 0 0],AV.map 3,aW<|L.map ay,nV L.length,nV a],[aZ 1 false 0 [iV day],aZ 1 false 0 [aV p],aZ 1 false 0 [ak],AObj.map (b6 ar b 0) b.length])) (fun a b=>yZ L []=yZ a b) (by rfl) (fun _ _ b _ _ _ c d=>Kh 0 c<|Kp 0 hi<|Kl 2 27 (ln aK ds)<|Mg 0<|SH (0:Nat) ds () [1,4,7,26,27,28] (fun a _ _=>([bQ (aT 56) [] [au 1 0 0 0,au 0 0 0 0,au 2 0 0 0],AV.map 3,aW<|ds.map aK,aW<|ds.map aK,nV ds.length,nV a],[aZ 1 false 0 [iV day],aZ 1 false 0 [aV p],aZ 1 false 0 [ak],AObj.map (b6 ar b 0) b.length])) (fun a c _=>(ds).drop a=c/\sj day p b ds c=[]) (fun _ a _=>a.length) (et rfl<|by(rw[<-show yZ L []=b from d];exact hE)) fun c d e f g=>Mc d (fun c=>have d:=fN f.1 c;have:=ie (J:=fun a _=>sj day p b ds a=[]) (a:=e) c f.2;Kh 0 d<|M1 (.frz 3 []) (kF rt rt rt ti)<|Mf a) fun a d h=>let i:=[az [iV a.act,iV a.item,iV a.day,iV a.it.kind,aW<|a.it.at_.map aY,aW<|a.it.to.map aY,iV a.it.where_,iV a.it.nth_,iV a.it.unit.act,iV a.it.unit.item,iV a.it.unit.n,iV a.it.unit.kind,aV a.it.unit.label,aW<|a.it.unit.head.map aQ,aW<|a.it.unit.words.map aQ,aW<|a.it.unit.kids.map aq,aW<|a.it.old.map nK,aW<|a.it.new.map nK,aV a.it.label,aV a.it.for_,iV a.it.start.kind,iV a.it.start.day,aV a.it.start.event,iV a.it.act,iV a.it.item,iV a.it.day,aV a.it.event,aW<|a.it.by_.map NO]];have j:=fT f.1 h;have:=aA j;have k:=fL (enc:=aK) f.1 h;have e:=cb (J:=fun a _=>sj day p b ds a=[]) (a:=e) h f.2;Kt 0 j<|Mx k<|Kp 5 (nw a.it.kind)<|Mb (gZ a.it.kind) (fun _=>K1 4 (.look<|az [iV (dW b a.act).kind,iV (dW b a.act).day,aV (dW b a.act).event]) (hlk b a.act)<|Kp 1 (m9 (dW b a.act) a ds<|by(omega))<|M3 (.efx true (dg [])<|av [aZ 1 false 0 q1,aZ 1 false 0 [aV p],aZ 1 false 0 [ak],AObj.map (b6 ar b 0) b.length,aZ 28 false 0 i]) (wK rt (tM b.length 5<|aG (f:=ar) (fun _=>rfl) b 0) rt rt rt ti) (wK (ax<|some<|aZ 28 false 0 i) (ax<|some<|AObj.map (b6 ar b 0) b.length) (ax<|some<|aZ 1 false 0 [ak]) (ax<|some<|aZ 1 false 0 [aV p]) (ax<|some<|aZ 1 false 0 q1) ti) (Ym day p b ds a<|by exact VA e (by assumption))<|Kl 0 46 (dU c)<|K1 0 (.frz 4 [1,4,7,26,27,28]) (IV (tM b.length 4<|aG (f:=ar) (fun _=>rfl) b 0) rt rt rt ti)<|Mf<|g (c+1) d () (et (bH f.1 h)<|by(have z:=e;rw[PE (VA z (by assumption))]at z;exact z))<|fZ h) fun _=>Kl 0 46 (dU c)<|K1 0 (.frz 4 [1,4,7,26,27,28]) (IV (tM b.length 4<|aG (f:=ar) (fun _=>rfl) b 0) rt rt rt ti)<|Mf<|g (c+1) d () (et (bH f.1 h)<|by(have z:=e;rw[PF (by assumption)]at z;exact z))<|fZ h) fun a _ b _ _ c d e _ f _ g h=>Kt 0 f<|Mx g<|K1 7 (.upd (b6 ar (lW c.number c.start b) 0) (lW c.number c.start b).length) (hup b c)<|Kl 0 23 (dU a)<|K1 0 (.frz 4 [0,1,4,12,13,14]) (IV (tM (lW c.number c.start b).length 4<|aG (f:=ar) (fun _=>rfl) (lW c.number c.start b) 0) rt rt rt ti)<|Mf<|e (lW c.number c.start b)<|by exact h
def HL(gs:List PGaz)(L:List PAct)(day:Int)(p:bZ)(x0:Nat×List PAct×List (Int×PStart)):Prop:=(L).drop x0.1=x0.2.1/\yZ L []=yZ x0.2.1 x0.2.2
noncomputable def xn(gs:List PGaz)(L:List PAct)(day:Int)(p:bZ)(x0:Nat×List PAct×List (Int×PStart)):List AV×List AObj:=([AV.ls (gs.map am),AV.func (Fn.func 56) [] [AV.ptr 1 0 0 0,AV.ptr 0 0 0 0,AV.ptr 2 0 0 0],AV.map 3,AV.ls (L.map ay),nV L.length,nV x0.1],[AObj.row 1 false 0 [iV day],AObj.row 1 false 0 [AV.str p],AObj.row 1 false 0 [AV.nils],AObj.map (b6 ar x0.2.2 0) x0.2.2.length])
def HI(ds:List PDeed)(day:Int)(p:bZ)(x0:Nat×List PAct×List (Int×PStart))(x1:Nat×List PDeed×Unit):Prop:=(ds).drop x1.1=x1.2.1/\OnA day p x0.2.2 ds x1.2.1
noncomputable def xm(ds:List PDeed)(day:Int)(p:bZ)(x0:Nat×List PAct×List (Int×PStart))(x1:Nat×List PDeed×Unit):List AV×List AObj:=([AV.func (Fn.func 56) [] [AV.ptr 1 0 0 0,AV.ptr 0 0 0 0,AV.ptr 2 0 0 0],AV.map 3,AV.ls (ds.map aK),AV.ls (ds.map aK),nV ds.length,nV x1.1],[AObj.row 1 false 0 [iV day],AObj.row 1 false 0 [AV.str p],AObj.row 1 false 0 [AV.nils],AObj.map (b6 ar x0.2.2 0) x0.2.2.length])
def HH(ds:List PDeed)(day:Int)(p:bZ)(x0:Nat×List PAct×List (Int×PStart))(x1:Nat×List PDeed×Nat×Nat×List PDeed):Prop:=(ds).drop x1.1=x1.2.1/\OnR day p x0.2.2 ds x1.2.1 x1.2.2.1 x1.2.2.2.1 x1.2.2.2.2
noncomputable def HG(ds:List PDeed)(day:Int)(p:bZ)(x0:Nat×List PAct×List (Int×PStart))(x1:Nat×List PDeed×Nat×Nat×List PDeed):List AV×List AObj:=([AV.func (Fn.func 56) [] [AV.ptr 1 0 0 0,AV.ptr 0 0 0 0,AV.ptr 2 0 0 0],AV.map 3,AV.ls (ds.map aK),AV.ls (ds.map aK),nV ds.length,nV x1.1],[AObj.row 1 false 0 [iV day],AObj.row 1 false 0 [AV.str p],AObj.row 1 false 0 [AV.slice 4 x1.2.2.1 0 x1.2.2.2.1 none],AObj.map (b6 ar x0.2.2 0) x0.2.2.length,AObj.row 28 true x1.2.2.1 (x1.2.2.2.2.map aK)])
theorem Xu(gs:List PGaz)(L:List PAct)(ds:List PDeed)(day:Int)(p:bZ)(hL:L.length<10000)(hd:ds.length<100000)(ha:kP 77 [.ls (gs.map am)] (.ls (L.map ay)))(hi:kP 94 [.ls (gs.map am)] (.ls (ds.map aK)))(hE:sj day p (yZ L []) ds ds≠[]):
    kD 55 [.ls (gs.map am),.func (.func 56) [] [.ptr 1 0 0 0,.ptr 0 0 0 0,.ptr 2 0 0 0]] (av [i9 day,g0 p,gN]) (.tuple []) (av [i9 day,g0 p,fD 3 ((sj day p (yZ L []) ds ds).length -1) (sj day p (yZ L []) ds ds).length,eT ((sj day p (yZ L []) ds ds).length -1) (sj day p (yZ L []) ds ds)]):=by
  have hlk:=zN
  have hup:=CZ
  let q5:=[iV day];let q8:=dg [];let q10:=some (aZ 1 false 0 [aV p]);let q11:=some (aZ 1 false 0 q5);exact CQ Tryz.func55<|Kp 2 ha<|Kl 0 13 (ln ay L)<|Mg 0<|ML (Nat×List PAct×List (Int×PStart)) [0,1,4,12,13,14] (xn gs L day p) (HL gs L day p) (fun a=>a.2.1.length) (0,L,[]) (ax<|xn gs L day p (0,L,[])) (et (rfl:List.drop 0 (L)=L) (by rfl:(yZ L []=yZ L []))) fun a b c=>let d:=some<|AObj.map (b6 ar a.2.2 0) a.2.2.length;Mi (fun a b=>yZ L []=yZ a b) ay b (fun _ b c=>Kh 0 b<|Kp 0 hi<|Kl 2 27 (ln aK ds)<|Mg 0<|MM (Nat×List PDeed×Unit) (Nat×List PDeed×Nat×Nat×List PDeed) [1,4,7,26,27,28] (xm ds day p a) (HG ds day p a) (HI ds day p a) (HH ds day p a) (fun a=>a.2.1.length) (fun a=>a.2.1.length) (.inl (0,ds,())) (ax<|xm ds day p a (0,ds,())) (et (rfl:List.drop 0 (ds)=ds) (by(exact⟨rfl⟩):(OnA day p a.2.2 ds ds))) (fun b e f=>Mc b.2.1 (fun d=>have f:=fN e.1 d;have b:=ie (J:=fun b _=>OnA day p a.2.2 ds b) (a:=b.2.2) d e.2;Kh 0 f<|Mw .abs (by exact hE (by rw[show yZ L []=a.2.2 from c];exact b.f):False)) fun c g h=>let i:=[az [iV c.act,iV c.item,iV c.day,iV c.it.kind,aW<|c.it.at_.map aY,aW<|c.it.to.map aY,iV c.it.where_,iV c.it.nth_,iV c.it.unit.act,iV c.it.unit.item,iV c.it.unit.n,iV c.it.unit.kind,aV c.it.unit.label,aW<|c.it.unit.head.map aQ,aW<|c.it.unit.words.map aQ,aW<|c.it.unit.kids.map aq,aW<|c.it.old.map nK,aW<|c.it.new.map nK,aV c.it.label,aV c.it.for_,iV c.it.start.kind,iV c.it.start.day,aV c.it.start.event,iV c.it.act,iV c.it.item,iV c.it.day,aV c.it.event,aW<|c.it.by_.map NO]];let j:=az [iV (dW a.2.2 c.act).kind,iV (dW a.2.2 c.act).day,aV (dW a.2.2 c.act).event];have k:=fT e.1 h;have:=aA k;have l:=fL (enc:=aK) e.1 h;have m:=cb (J:=fun b _=>OnA day p a.2.2 ds b) (a:=b.2.2) h e.2;Kt 0 k<|Mx l<|Kp 5 (nw c.it.kind)<|Mb (gZ c.it.kind) (fun _=>Ms (Ch day p a.2.2 ds c) (fun d=>K1 4 (.look j) (hlk a.2.2 c.act)<|Kp 1 (m9 (dW a.2.2 c.act) c ds<|by(omega))<|M3 (.efx false q8<|av [aZ 1 false 0 q5,aZ 1 false 0 [aV p],aZ 1 false 0 [aD 5 0 0 1 none],AObj.map (b6 ar a.2.2 0) a.2.2.length,aZ 28 false 0 i,aZ 28 true 0 i]) (wK rt (tM a.2.2.length 5<|aG (f:=ar) (fun _=>rfl) a.2.2 0) rt rt rt ti) ti (aah day p a.2.2 ds c d)<|Kl 0 46 (dU b.1)<|K1 0 (.ren [0,1,2,3,5,4] [3] [1,4,7,26,27,28]) (tN a.2.2.length<|aG (f:=ar) (fun _=>rfl) a.2.2 0)<|M1 (.frz 5 [1,4,7,26,27,28]) (wK rt (tM a.2.2.length 5<|aG (f:=ar) (fun _=>rfl) a.2.2 0) rt rt rt ti)<|Mf<|f (.inr (b.1+1,g,(0,1,[c]))) (et (bH e.1 h) (by exact m.new (Wj (e.1.trans h)) (by assumption) (by assumption) rfl:(OnR day p a.2.2 ds g (0:Nat) (1:Nat) [c])))<|fZ h) fun k=>K1 4 (.look j) (hlk a.2.2 c.act)<|Kp 1 (m9 (dW a.2.2 c.act) c ds<|by(omega))<|M3 (.efx true q8<|av [aZ 1 false 0 q5,aZ 1 false 0 [aV p],aZ 1 false 0 [ak],AObj.map (b6 ar a.2.2 0) a.2.2.length,aZ 28 false 0 i]) (wK rt (tM a.2.2.length 5<|aG (f:=ar) (fun _=>rfl) a.2.2 0) rt rt rt ti) (wK (ax<|some<|aZ 28 false 0 i) (ax d) (ax<|some<|aZ 1 false 0 [ak]) (ax q10) (ax q11) ti) (aai day p a.2.2 ds c k)<|Kl 0 46 (dU b.1)<|K1 0 (.frz 4 [1,4,7,26,27,28]) (IV (tM a.2.2.length 4<|aG (f:=ar) (fun _=>rfl) a.2.2 0) rt rt rt ti)<|Mf<|f (.inl (b.1+1,g,())) (et (bH e.1 h) (by exact m.nil (by assumption):(OnA day p a.2.2 ds g)))<|fZ h) fun _=>Kl 0 46 (dU b.1)<|K1 0 (.frz 4 [1,4,7,26,27,28]) (IV (tM a.2.2.length 4<|aG (f:=ar) (fun _=>rfl) a.2.2 0) rt rt rt ti)<|Mf<|f (.inl (b.1+1,g,())) (et (bH e.1 h) (by exact m.no (by assumption):(OnA day p a.2.2 ds g)))<|fZ h) fun b e f=>let g:=[aD 4 b.2.2.1 0 b.2.2.2.1 none];let h:=List.map aK b.2.2.2.2;Mc b.2.1 (fun d=>have f:=fN e.1 d;have d:=ie (J:=fun b c=>OnR day p a.2.2 ds b c.1 c.2.1 c.2.2) (a:=b.2.2) d e.2;Kh 0 f<|M2 (.ren [0,1,2,4,3] [4,3] []) (tS 28 true b.2.2.1<|aX xg b.2.2.2.2) (tN a.2.2.length<|aG (f:=ar) (fun _=>rfl) a.2.2 0)<|M1 (.frz 4 []) (IV (tR 28 true b.2.2.1 4<|aX xg b.2.2.2.2) rt rt rt ti)<|Mf<|et (ax q8) (by(have q:=d.done;rw[show yZ L []=a.2.2 from c,q.1,q.2.1,q.2.2]):(av [AObj.row 1 false 0 [iV day],AObj.row 1 false 0 [AV.str p],AObj.row 1 false 0 [AV.slice 3 b.2.2.1 0 b.2.2.2.1 none],AObj.row 28 true b.2.2.1 (b.2.2.2.2.map aK)])=(av [i9 day,g0 p,fD 3 ((sj day p (yZ L []) ds ds).length -1) (sj day p (yZ L []) ds ds).length,eT ((sj day p (yZ L []) ds ds).length -1) (sj day p (yZ L []) ds ds)]))) fun c i j=>let k:=[az [iV c.act,iV c.item,iV c.day,iV c.it.kind,aW<|c.it.at_.map aY,aW<|c.it.to.map aY,iV c.it.where_,iV c.it.nth_,iV c.it.unit.act,iV c.it.unit.item,iV c.it.unit.n,iV c.it.unit.kind,aV c.it.unit.label,aW<|c.it.unit.head.map aQ,aW<|c.it.unit.words.map aQ,aW<|c.it.unit.kids.map aq,aW<|c.it.old.map nK,aW<|c.it.new.map nK,aV c.it.label,aV c.it.for_,iV c.it.start.kind,iV c.it.start.day,aV c.it.start.event,iV c.it.act,iV c.it.item,iV c.it.day,aV c.it.event,aW<|c.it.by_.map NO]];let l:=az [iV (dW a.2.2 c.act).kind,iV (dW a.2.2 c.act).day,aV (dW a.2.2 c.act).event];have m:=fT e.1 j;have:=aA m;have n:=fL (enc:=aK) e.1 j;have o:=cb (J:=fun b c=>OnR day p a.2.2 ds b c.1 c.2.1 c.2.2) (a:=b.2.2) j e.2;Kt 0 m<|Mx n<|Kp 5 (nw c.it.kind)<|Mb (gZ c.it.kind) (fun _=>Ms (Ch day p a.2.2 ds c) (fun d=>K1 4 (.look l) (hlk a.2.2 c.act)<|Kp 1 (m9 (dW a.2.2 c.act) c ds<|by(omega))<|M3 (.efx false q8<|av [aZ 1 false 0 q5,aZ 1 false 0 [aV p],aZ 1 false 0 [aD 4 (b.2.2.1+1) 0 (b.2.2.2.1+1) none],AObj.map (b6 ar a.2.2 0) a.2.2.length,aZ 28 true (b.2.2.1+1)<|(b.2.2.2.2++[c]).map aK,aZ 28 false 0 k]) (BA rt (tR 28 true b.2.2.1 6<|aX xg b.2.2.2.2) (tM a.2.2.length 6<|aG (f:=ar) (fun _=>rfl) a.2.2 0) rt rt rt ti) ti (aaf day p a.2.2 ds c b.2.2.1 b.2.2.2.1 b.2.2.2.2 d (by exact o.len)<|by(have z:=o.small;have z2:=o.len;simp only[lC]at z;omega))<|Kl 0 46 (dU b.1)<|K1 0 (.frz 5 [1,4,7,26,27,28]) (wK (tR 28 true (b.2.2.1+1) 5<|aX xg<|b.2.2.2.2++[c]) (tM a.2.2.length 5<|aG (f:=ar) (fun _=>rfl) a.2.2 0) rt rt rt ti)<|Mf<|f (.inr (b.1+1,i,(b.2.2.1+1,b.2.2.2.1+1,b.2.2.2.2++[c]))) (et (bH e.1 j) (by exact o.new (by assumption) (by assumption) rfl:(OnR day p a.2.2 ds i (b.2.2.1+1) (b.2.2.2.1+1) (b.2.2.2.2++[c]))))<|fZ j) fun m=>K1 4 (.look l) (hlk a.2.2 c.act)<|Kp 1 (m9 (dW a.2.2 c.act) c ds<|by(omega))<|M3 (.efx true q8<|av [aZ 1 false 0 q5,aZ 1 false 0 [aV p],aZ 1 false 0 g,AObj.map (b6 ar a.2.2 0) a.2.2.length,aZ 28 true b.2.2.1 h,aZ 28 false 0 k]) (BA rt (tR 28 true b.2.2.1 6<|aX xg b.2.2.2.2) (tM a.2.2.length 6<|aG (f:=ar) (fun _=>rfl) a.2.2 0) rt rt rt ti) (BA (ax<|some<|aZ 28 false 0 k) (ax<|some<|aZ 28 true b.2.2.1 h) (ax d) (ax<|some<|aZ 1 false 0 g) (ax q10) (ax q11) ti) (aag day p a.2.2 ds c b.2.2.1 b.2.2.2.1 b.2.2.2.2 m)<|Kl 0 46 (dU b.1)<|K1 0 (.frz 5 [1,4,7,26,27,28]) (wK (tR 28 true b.2.2.1 5<|aX xg b.2.2.2.2) (tM a.2.2.length 5<|aG (f:=ar) (fun _=>rfl) a.2.2 0) rt rt rt ti)<|Mf<|f (.inr (b.1+1,i,(b.2.2.1,b.2.2.2.1,b.2.2.2.2))) (et (bH e.1 j) (by exact o.nil (by assumption):(OnR day p a.2.2 ds i b.2.2.1 b.2.2.2.1 b.2.2.2.2)))<|fZ j) fun _=>Kl 0 46 (dU b.1)<|K1 0 (.frz 5 [1,4,7,26,27,28]) (wK (tR 28 true b.2.2.1 5<|aX xg b.2.2.2.2) (tM a.2.2.length 5<|aG (f:=ar) (fun _=>rfl) a.2.2 0) rt rt rt ti)<|Mf<|f (.inr (b.1+1,i,(b.2.2.1,b.2.2.2.1,b.2.2.2.2))) (et (bH e.1 j) (by exact o.no (by assumption):(OnR day p a.2.2 ds i b.2.2.1 b.2.2.2.1 b.2.2.2.2)))<|fZ j) fun d e f g _ h i=>Kt 0 g<|Mx h<|K1 7 (.upd (b6 ar (lW d.number d.start a.2.2) 0) (lW d.number d.start a.2.2).length) (hup a.2.2 d)<|Kl 0 23 (dU a.1)<|K1 0 (.frz 4 [0,1,4,12,13,14]) (IV (tM (lW d.number d.start a.2.2).length 4<|aG (f:=ar) (fun _=>rfl) (lW d.number d.start a.2.2) 0) rt rt rt ti)<|Mf<|c (a.1+1,e,lW d.number d.start a.2.2) (et (bH b.1 f) (by exact i:(yZ L []=yZ e (lW d.number d.start a.2.2))))<|fZ f
noncomputable def ZI(day:Int)(p:bZ)(L:List PAct)(ds:List PDeed):List PDeed:=sj day p (yZ L []) ds ds
theorem Yi(gs:List PGaz)(day:Int)(p:bZ)(hc:kD 55 [.ls (gs.map am),.func (.func 56) [] [.ptr 1 0 0 0,.ptr 0 0 0 0,.ptr 2 0 0 0]] (av [i9 day,g0 p,gN]) (.tuple []) (av [i9 day,g0 p,gN])):kP 20 [iV day,.str p,.ls (gs.map am)] (.ls (([]:List PDeed).map aK)):=by
  exact bo Tryz.func20<|Ke 5 hc<|Kf 1 bA
theorem Yh(gs:List PGaz)(day:Int)(p:bZ)(X:List PDeed)(k:Nat)(hz:0<X.length)(hb:X.length<2^40)(hc:kD 55 [.ls (gs.map am),.func (.func 56) [] [.ptr 1 0 0 0,.ptr 0 0 0 0,.ptr 2 0 0 0]] (av [i9 day,g0 p,gN]) (.tuple []) (av [i9 day,g0 p,fD 3 k X.length,eT k X])):kP 20 [iV day,.str p,.ls (gs.map am)] (.ls (X.map aK)):=by
  let q:=List.map aK X;exact bo Tryz.func20<|Ke 5 hc<|Mg 1<|M2 (.fsl 0 [] 6 q) ti (ch (ax k) (tA aK X X.length rfl)<|aX xg X)<|Ml 6 (fY q false<|aX xg X)<|Mf<|bY<|aW q
theorem Yl(gs:List PGaz)(L:List PAct)(ds:List PDeed)(day:Int)(p:bZ)(hL:L.length<10000)(hd:ds.length<100000)(ha:kP 77 [.ls (gs.map am)] (.ls (L.map ay)))(hi:kP 94 [.ls (gs.map am)] (.ls (ds.map aK))):kP 20 [iV day,.str p,.ls (gs.map am)] (.ls ((ZI day p L ds).map aK)):=by
  by_cases hE:ZI day p L ds=[]
  · rw[hE];exact Yi gs day p (XA gs L ds day p hL hd ha hi hE)
  · have hl:(ZI day p L ds).length<=ds.length:=List.length_filter_le ..
    exact Yh gs day p _ _ (qJ.2 hE) (by omega) (Xu gs L ds day p hL hd ha hi hE)
def oR:TUnit:=⟨0,0,0,0,[],[],[],[]⟩
theorem rJ:OkB oR:=⟨by decide,by decide,fun x hx=>by
  have e:x=oR:=by simpa[oR,bB,dB]using hx
  subst e;exact⟨bD _,bD _⟩⟩
theorem XN(X:List PDeed)(hl:X.length<2^30)(ho:∀d,d∈X->ta d.it):kP 65 [zU,.ls (X.map aK)] (.tuple [eU (dC oR X),.ls ((fx oR X).map gn)]):=
  (Sa oR X rJ hl ho).args (.cons (wb _ _ (by kernel_rfl)).1 (.cons (Le.refl _) .nil))
theorem RD(X:List PDeed)(hl:X.length<2^30)(ho:∀d,d∈X->ta d.it):kP 27 [.ls (X.map aK)] (.tuple [eU (dC oR X),.ls ((fx oR X).map gn)]):=by
  have h:=XN X hl ho
  exact bo Tryz.func27<|Kp 3 h<|Kf 3<|bY<|dg [az [iV (dC oR X).act,iV (dC oR X).item,iV (dC oR X).n,iV (dC oR X).kind,aV (dC oR X).label,aW<|List.map aQ (dC oR X).head,aW<|List.map aQ (dC oR X).words,aW<|List.map aq (dC oR X).kids],aW<|(fx oR X).map gn]
theorem U7(gs:List PGaz)(day:Int)(p:bZ)(X:List PDeed)(hon:kP 20 [iV day,.str p,.ls (gs.map am)] (.ls (X.map aK))):kP 26 [iV day,.str p,.ls (gs.map am)] (.ls (X.map aK)):=by
  exact bo Tryz.func26<|Kp 3 hon<|Kf 0<|bY<|aW<|X.map aK
structure OkG(gs:List PGaz):Prop where
  fit:pF gs
  len:gs.length<=9
  acts:∀g,g∈gs->g.acts.length<=20
  items:∀g,g∈gs->∀a,a∈g.acts->a.items.length<=40/\∀x,x∈a.items->nZ x=true
theorem Hz{most:Int}:∀(l:List PAct)(n m:Int),most=24->0<=n->mc most l n=some m->0<=m/\∀a,a∈l->a.items.length<=24/\∀x,x∈a.items->nZ x=true
  |[],n,m,_,hn,h=>by simp only[mc,xB]at h;exact⟨h▸hn,fun a ha=>by cases ha⟩
  | b::r,n,m,hm,hn,h=>by
    unfold mc at h
    cases hb:BJ most n b with
    |true=>rw[hb]at h;cases h
    | false=>
      rw[hb]at h
      unfold BJ at hb
      simp only[BO]at hb
      obtain⟨z1,_,_,z2⟩:=hb
      have z1:=aE z1
      obtain⟨q1,q2⟩:=Hz r (n+Int.ofNat b.items.length) m hm (by simp only[oN]at *;omega) h
      refine⟨q1,fun a ha=>?_⟩
      rcases fk.1 ha with rfl|ha
      · refine⟨by simp only[oN]at *;omega,fun x hx=>?_⟩
        have z3:=qu z2
        exact kI.1 z3 x hx
      · exact q2 a ha
theorem Ln:∀(l:List PGaz)(n:Int),0<=n->uD 24 l n=true->∀g,g∈l->g.acts.length<=8/\∀a,a∈g.acts->a.items.length<=24/\∀x,x∈a.items->nZ x=true
  |[],_,_,_,g,hg=>by cases hg
  | x::r,n,hn,h,g,hg=>by
    unfold uD at h
    cases hb:wX x with
    |true=>rw[hb]at h;cases h
    | false=>
      rw[hb]at h
      cases ha:mc 24 x.acts n with
      |none=>rw[ha]at h;cases h
      | some m=>
        rw[ha]at h
        obtain⟨q1,q2⟩:=Hz x.acts n m rfl hn ha
        rcases fk.1 hg with rfl|hg
        · unfold wX at hb
          have:=aE (BO.1 hb).1
          exact⟨by simp only[oN]at *;omega,q2⟩
        · exact Ln r m q1 h g hg
theorem Wi{gs:List PGaz}{p:bZ}(hf:pF gs)(h:Xy gs p=true):OkG gs/\gs.length<=8:=by
  unfold Xy at h
  have h1:=(ni.1 h).1
  unfold Hw at h1
  cases hb:aB 8 (Int.ofNat gs.length)with
  |true=>rw[hb]at h1;cases h1
  | false=>
    rw[hb]at h1
    have:=aE hb
    have hl:gs.length<=8:=by simp only[oN]at *;omega
    have q:=Ln gs 0 (by omega) h1
    exact⟨⟨hf,by omega,fun g hg=>bO (q g hg).1 (by decide),fun g hg a ha=>⟨bO ((q g hg).2 a ha).1 (by decide),((q g hg).2 a ha).2⟩⟩,hl⟩
theorem CK:∀(ys out:List PAct),(ys.foldl jg out).length<=out.length+ys.length
  |[],out=>ah _
  | a::r,out=>by
    have:=CK r (jg out a);have:=(O1 out a).2
    simp only[mG,lC];omega
theorem Ac:∀(gs:List PGaz),(∀g,g∈gs->g.acts.length<=20)->∀out,(bq gs out).length<=out.length+20*gs.length
  |[],_,out=>ah _
  | g::r,hb,out=>by
    have:=Ac r (fun x hx=>hb x (fQ _ hx)) (g.acts.foldl jg out)
    have:=CK g.acts out
    have:=hb g (e9 ..)
    simp only[bq,mG,lC]at *
    omega
theorem O0{out:List PAct}{a b:PAct}(h:b∈jg out a):b∈out\/b=a:=by
  unfold jg at h
  split at h
  · exact .inl h
  · rcases lr.1 h with h|h
    · exact .inl h
    · exact .inr (qX.1 h)
theorem CJ:∀(ys out:List PAct)(b:PAct),b∈ys.foldl jg out->b∈out\/b∈ys
  |[],out,b,h=>.inl h
  | a::r,out,b,h=>by
    rcases CJ r (jg out a) b h with h|h
    · rcases O0 h with h|rfl
      · exact .inl h
      · exact .inr (e9 ..)
    · exact .inr (fQ _ h)
theorem Ab:∀(gs:List PGaz)(out:List PAct)(b:PAct),b∈bq gs out->b∈out\/∃g,g∈gs/\b∈g.acts
  |[],out,b,h=>.inl h
  | g::r,out,b,h=>by
    rcases Ab r (g.acts.foldl jg out) b h with h|⟨g2,q1,q2⟩
    · rcases CJ g.acts out b h with h|h
      · exact .inl h
      · exact .inr ⟨g,e9 ..,h⟩
    · exact .inr ⟨g2,fQ _ q1,q2⟩
theorem vz:∀(l:List PAct),(∀a,a∈l->a.items.length<=40)->(kr l).length<=40*l.length
  |[],_=>ah _
  | a::r,h=>by
    have:=vz r fun b hb=>h b (fQ _ hb)
    have:=h a (e9 ..)
    simp only[kr,E9,lA,l0,lC]at *
    omega
theorem OkG.act{gs:List PGaz}(h:OkG gs){a:PAct}(ha:a∈eR gs):a.items.length<=40/\(∀x,x∈a.items->nZ x=true)/\RZ a:=by
  have ha:=(jH gs).mem_iff.1 ha
  rcases Ab gs [] a ha with q|⟨g,h1,h2⟩
  · cases q
  · exact⟨(h.items g h1 a h2).1,(h.items g h1 a h2).2,(h.fit.2 g h1).2 a h2⟩
noncomputable def rY(gs:List PGaz):List PDeed:=bT (ao (eR gs) []) (eR gs)
theorem OkG.lens{gs:List PGaz}(h:OkG gs):(eR gs).length<=180/\(rY gs).length<=7200:=by
  have h1:=Ac gs h.acts []
  have h2:=(jH gs).length_eq
  have h3:=vz (eR gs) fun a ha=>(h.act ha).1
  have h4:=h.len
  have h5:(rY gs).length=(kr (eR gs)).length:=cQ ..
  simp only[lN]at h1
  omega
theorem OkG.all{gs:List PGaz}(h:OkG gs):kP 77 [.ls (gs.map am)] (.ls ((eR gs).map ay))/\kP 94 [.ls (gs.map am)] (.ls ((rY gs).map aK)):=by
  have h1:=h.lens
  have h2:=(jH gs).length_eq
  have h3:(rY gs).length=(kr (eR gs)).length:=cQ ..
  have h4:=h.len
  exact⟨L4 gs h.fit (fun g hg=>nl (h.acts g hg) (by decide)) (by omega) (by omega),Qb gs h.fit (fun g hg=>nl (h.acts g hg) (by decide)) (by omega) (by omega) (fun a ha=>nl (h.act ha).1 (by decide)) (by omega)⟩
theorem XH{x y:PItem}(h:nZ x=true)(hy:y∈x.by_):nZ y=true:=by
  rw[Ed]at h
  simp only[bj]at h
  have:=kI.1 h.2.2.2.2.2 y hy
  unfold HN at this
  exact(ni.1 this).2
theorem XG{x y:PItem}(h:nc x)(hy:y∈x.by_):nc y:=(qS.1 h).2.2.2.2.2.2 y hy
theorem FL{K V:Type}{keq:K->K->Bool}{k:K}{v:V}:∀{l:List (K×V)}{e:K×V},e∈fp keq k v l->e∈l\/e.2=v
  | [],e,h=>by
    rw[fp,qX]at h;exact .inr (by rw[h])
  | (j,u)::r,e,h=>by
    rw[fp]at h
    cases q:keq k j with
    | true=>
      rw[q]at h
      rcases fk.1 h with h|h
      · exact .inr (by rw[h])
      · exact .inl (fQ _ h)
    | false=>
      rw[q]at h
      rcases fk.1 h with h|h
      · exact .inl (by rw[h];exact e9 ..)
      · rcases FL (l:=r) h with h|h
        · exact .inl (fQ _ h)
        · exact .inr h
theorem Aw{K V:Type}{keq:K->K->Bool}{k:K}{v:V}:∀{l:List (K×V)},j8 keq k l=some v->∃e,e∈l/\e.2=v
  |[],h=>by cases h
  | (j,u)::r,h=>by
    rw[j8]at h
    cases q:keq k j with
    |true=>rw[q]at h;exact⟨(j,u),e9 ..,JS h⟩
    | false=>
      rw[q]at h
      obtain⟨e,h1,h2⟩:=Aw (l:=r) h
      exact⟨e,fQ _ h1,h2⟩
theorem NT{m:List ((Int×Int)×PItem)}{x:PItem}(hm:∀e,e∈m->ta e.2)(h1:nZ x=true)(h2:nc x):∀e,e∈jE m x->ta e.2:=by
  unfold jE
  split
  · rename_i h
    simp only[bj]at h
    have hl:=aA h.1.2
    have hy:gD x.by_ 0∈x.by_:=ig (by simp only[oN]at hl;omega)
    intro e he
    rcases FL he with q|q
    · exact hm e q
    · rw[q];exact PS (XG h2 hy) (XH h1 hy)
  · exact hm
theorem DV:∀(xs:List PItem)(m:List ((Int×Int)×PItem)),(∀e,e∈m->ta e.2)->(∀x,x∈xs->nZ x=true/\nc x)->∀e,e∈xs.foldl jE m->ta e.2
  |[],_,hm,_=>hm
  |x::r,m,hm,h=>DV r (jE m x) (NT hm (h x (e9 ..)).1 (h x (e9 ..)).2) fun y hy=>h y (fQ _ hy)
theorem DK:∀(l:List PAct)(m:List ((Int×Int)×PItem)),(∀e,e∈m->ta e.2)->(∀a,a∈l->∀x,x∈a.items->nZ x=true/\nc x)->∀e,e∈ao l m->ta e.2
  |[],_,hm,_=>hm
  |a::r,m,hm,h=>DK r (a.items.foldl jE m) (DV a.items m hm (h a (e9 ..))) fun b hb=>h b (fQ _ hb)
theorem Au(a:PAct):∀(l:List PItem)(i:Nat)(d:PDeed),d∈b7 a l i->d.it∈l
  |[],_,d,h=>by cases h
  | x::r,i,d,h=>by
    rcases fk.1 h with rfl|h
    · exact e9 ..
    · exact fQ _ (Au a r _ d h)
theorem OkG.deed{gs:List PGaz}(h:OkG gs){d:PDeed}(hd:d∈rY gs):ta d.it:=by
  have hi:∀a,a∈eR gs->∀x,x∈a.items->nZ x=true/\nc x:=fun a ha x hx=>⟨(h.act ha).2.1 x hx,(h.act ha).2.2.2 x hx⟩
  obtain⟨o,ho,rfl⟩:=jf.1 hd
  obtain⟨a,ha,hoa⟩:=List.mem_flatMap.1 ho
  have h1:=hi a ha _ (Au a _ _ _ hoa)
  have h2:ta o.it:=PS h1.2 h1.1
  unfold lO
  split
  · rename_i hc
    have hc:=(ni.1 hc).1
    unfold qM at hc
    show ta (Iv (ao (eR gs) []) o)
    unfold Iv
    cases q:j8 pf (o.act,o.item) (ao (eR gs) [])with
    |none=>rw[q]at hc;cases hc
    | some v=>
      obtain⟨e,e1,e2⟩:=Aw q
      have:=DK (eR gs) [] (fun e he=>by cases he) hi e e1
      rw[e2]at this
      exact this
  · exact h2
noncomputable def lq(day:Int)(p:bZ)(gs:List PGaz):List PDeed:=ZI day p (eR gs) (rY gs)
theorem OkG.force{gs:List PGaz}(h:OkG gs)(day:Int)(p:bZ):(lq day p gs).length<2^30/\(∀d,d∈lq day p gs->ta d.it)/\kP 20 [iV day,.str p,.ls (gs.map am)] (.ls ((lq day p gs).map aK)):=by
  have hl:=h.lens
  have h1:(lq day p gs).length<=(rY gs).length:=List.length_filter_le ..
  exact⟨by omega,fun d hd=>h.deed (BG.1 hd).1,Yl gs _ _ day p (by omega) (by omega) h.all.1 h.all.2⟩
noncomputable abbrev zIt:List AV:=[iV 0,.nils,.nils,iV 0,iV 0,iV 0,iV 0,iV 0,iV 0,.str [],.nils,.nils,.nils,.nils,.nils,.str [],.str [],iV 0,iV 0,.str [],iV 0,iV 0,iV 0,.str [],.nils]
noncomputable abbrev Bx(a i y:Int):AV:=.agg (iV a::iV i::iV y::zIt)
noncomputable abbrev lE(a i:Int):AV:=.agg [iV a,iV i]
noncomputable abbrev vQ(g:Nat):AV:=.func (.func g) [] []
noncomputable abbrev oX(g:Nat)(a i y:Int):AV:=.func (.func 114) [] [.pptr [vQ g] 0 0,.pptr [Bx a i y] 0 0]
noncomputable def rq(d:PDeed)(a i y:Int):Int:=Cg [gL d.day y,gL d.act a,gL d.item i]
theorem We(x y z:Int):kP 119 [.ps [iV x,iV y,iV z] true] (iV (Cg [x,y,z])):=
  bX.onArgs (.cons (Le.ps _ _ rfl) .nil) (Vt [x,y,z] (by simp))
theorem LN(d:PDeed)(a i y:Int):kP 83 [aK d,Bx a i y] (iV (rq d a i y)):=by
  exact bo Tryz.func83<|Kp 6 (jF d.day y)<|Kp 3 (jF d.act a)<|Kp 3 (jF d.item i)<|Kp 0 (We (gL d.day y) (gL d.act a)<|gL d.item i)<|Kf 0<|bY<|iV<|Cg [gL d.day y,gL d.act a,gL d.item i]
theorem VZ(o:Int):kP 41 [iV o] (.bool (aB o 0)):=by
  exact wk Tryz.func41 (.go 3 .fin)<|bY<|dQ<|aB o 0
theorem Vy(d:PDeed)(g:Nat)(a i y:Int)(p:Int->Bool)(hp:∀o,kP g [iV o] (.bool (p o))):kP 114 [aK d,.pptr [vQ g] 0 0,.pptr [Bx a i y] 0 0] (.bool (aw (p (rq d a i y)))):=by
  have h:=LN d a i y
  exact bo Tryz.func114<|Kp 4 h<|Mp (hp<|rq d a i y)<|Kf 1<|bY<|dQ<|aw<|p<|rq d a i y
theorem R7(w:PDeed)(r:List PDeed)(hl:r.length<2^30):kD 113 [.ls ((w::r).map aK)] (av []) (.slice 0 0 0 (r.length+1) none) (av [eT 0 (w::r)]):=by
  exact CQ Tryz.func113<|Mg 1<|Mz 3 (fun(a:((w::r).map aK:List AV)=[])=>Mw .abs<|ja _ _ a)<|Mg 3<|M2 .apl (et (by exact ja _ _:List.map aK (w::r)≠[])<|fM 28 aK (w::r) fun _=>rfl) (by(refine dK (m:=2^31) ?_ ?_ ?_<;>first|omega|(simp only[lM,lC];omega)):small ((w::r).map aK).length 392=true)<|Kf 0<|et (by simp:(AV.slice 0 0 0 ((w::r).map aK).length none)=(AV.slice 0 0 0 (r.length+1) none))<|ax<|av [aZ 28 true 0<|(w::r).map aK]
theorem Dz(X:List PDeed)(hz:X≠[])(hl:X.length<2^30):kD 113 [.ls (X.map aK)] (av []) (.slice 0 0 0 X.length none) (av [eT 0 X]):=by
  cases X with
  |nil=>exact absurd rfl hz
  |cons w r=>exact R7 w r (by simp only[lC]at hl;omega)
theorem Fg{xs ys:List AV}{n:Nat}(h:xs.length=n):((xs++ys).drop 0).take n=xs:=List.take_left' h
noncomputable abbrev zD:AV:=Bx 0 0 0
theorem W9(X:List PDeed)(g:Nat)(a i y:Int)(q:PDeed->Bool)(m:Nat)(hq:∀d,kP 114 [aK d,.pptr [vQ g] 0 0,.pptr [Bx a i y] 0 0] (.bool (q d)))(hm:m<X.length)(hs:X.length<2^30)(hA:∀k,k<m->q (gD X k)=false)(hB:q (gD X m)=true):kD 153 [.slice 0 0 0 X.length none,oX g a i y] (av [eT 0 X]) (nV m) (av [eT 0 X]):=by
  have hk:∀x,x<=m->q (gD X x)=true->x=m:=fun x h1 h2=>by
    rcases eA x m with h|h
    · rw[hA x h]at h2;cases h2
    · omega
  have hk2:∀x,x<=m->q (gD X x)=false->x+1<=m:=fun x h1 h2=>by
    rcases eA x m with h|h
    · exact h
    · rw[show x=m by omega,hB]at h2;cases h2
  let q1:=av [aZ 28 true 0 (X.map aK)];exact CQ Tryz.func153<|Mg 3<|XT (0:Nat) [0,1,7,8] (fun b=>([aD 0 0 0 X.length none,bQ (aT 114) [] [AV.pptr [bQ (aT g) [] []] 0 0,AV.pptr [az [iV a,iV i,iV y,iV 0,ak,ak,iV 0,iV 0,iV 0,iV 0,iV 0,iV 0,aV [],ak,ak,ak,ak,ak,aV [],aV [],iV 0,iV 0,aV [],iV 0,iV 0,iV 0,aV [],ak]] 0 0],nV X.length,nV b],[aZ 28 true 0<|X.map aK])) (fun b=>b<=m) (fun b=>X.length-b) (by exact bD _) fun b c e=>have c:=c;Ka 0 (Int.ofNat b) (Int.ofNat X.length) (fun _ _=>K1 4 .rix (et (ax 0) (oA:b<X.length))<|Mr (et (ax 0)<|bJ aK (oA:b<(X).length))<|Mp (hq<|gD X b)<|Mb (q<|gD X b) (fun _=>Kf 1<|et (by(rw[hk _ c (by assumption)]):(nV b)=(nV m))<|ax q1) fun _=>Kl 0 18 (iF b)<|Kf 0<|e (b+1) (by exact hk2 _ c (by assumption))<|by(omega)) fun _ _=>Kf 0<|et (by(exfalso;(simp only[oN]at *;omega)):(iV (-1))=(nV m))<|ax q1
theorem W8(X:List PDeed)(g:Nat)(a i y:Int)(q:PDeed->Bool)(hq:∀d,kP 114 [aK d,.pptr [vQ g] 0 0,.pptr [Bx a i y] 0 0] (.bool (q d)))(hs:X.length<2^30)(hA:∀k,k<X.length->q (gD X k)=false):kD 153 [.slice 0 0 0 X.length none,oX g a i y] (av [eT 0 X]) (iV (-1)) (av [eT 0 X]):=by
  exact dE Tryz.func153 fun b=>Mg 3<|XT (0:Nat) [0,1,7,8] (fun b=>([aD 0 0 0 X.length none,bQ (aT 114) [] [AV.pptr [bQ (aT g) [] []] 0 0,AV.pptr [az [iV a,iV i,iV y,iV 0,ak,ak,iV 0,iV 0,iV 0,iV 0,iV 0,iV 0,aV [],ak,ak,ak,ak,ak,aV [],aV [],iV 0,iV 0,aV [],iV 0,iV 0,iV 0,aV [],ak]] 0 0],nV X.length,nV b],[aZ 28 true 0<|X.map aK])) (fun b=>b<=X.length) (fun b=>X.length-b) (by exact bD _) fun c e f=>have:=e;Ka 0 (Int.ofNat c) (Int.ofNat X.length) (fun _ _=>K1 4 .rix (et (ax 0) (by(simp only[oN,lM,lS]at *;omega):c<X.length))<|Mr (et (ax 0)<|bJ aK (by(simp only[oN,lM,lS]at *;omega):c<(X).length))<|Mp (hq<|gD X c)<|Mb (q<|gD X c) (fun _=>Kf 1<|et (by(have z:=hA c (by(simp only[oN]at *;omega));simp_all;done):(nV c)=(iV (-1)))<|ax<|av [aZ 28 true 0<|X.map aK]) fun _=>Kl 0 18 (iF c)<|Kf 0<|f (c+1) (by(simp only[oN]at *;omega))<|by(simp only[oN]at *;omega)) fun _ _=>Kf 0 b
noncomputable abbrev MH(X:List PDeed)(m:Nat):AObj:=.row 28 true 0 ((X.take m).map aK++List.replicate (X.length-m) zD)
theorem VS{X:List PDeed}{m:Nat}(h:m<=X.length):bG (X.map aK) m (List.replicate (X.length-m) zD)=(X.take m).map aK++List.replicate (X.length-m) zD:=by
  unfold bG
  rw[lR,BH (by rw[lM];omega),ei,List.map_take]
theorem Xo(X:List PDeed)(g:Nat)(a i y:Int)(m:Nat)(hq:∀k,m<=k->k<X.length->kP 114 [aK (gD X k),.pptr [vQ g] 0 0,.pptr [Bx a i y] 0 0] (.bool true))(hm:m<X.length)(hs:X.length<2^30)(hf:kD 153 [.slice 0 0 0 X.length none,oX g a i y] (av [eT 0 X]) (nV m) (av [eT 0 X])):kD 112 [.slice 0 0 0 X.length none,oX g a i y] (av [eT 0 X]) (.slice 0 0 0 m none) (av [MH X m]):=by
  have e1:ae (Int.ofNat m) (-1)=false:=by rw[nL];exact decide_eq_false (by simp only[oN];omega)
  have e3:(X.take m).length=m:=by rw[tg];omega
  let q:=av [aZ 28 true 0 (X.map aK)];let q1:=aD 0 0 m (X.length-m) none;exact dE Tryz.func112 fun b=>Ke 2 hf<|Kl 5 15 (iF m)<|Mg 0<|XT (m+1) [0,1,5,6] (fun b=>([aD 0 0 0 X.length none,bQ (aT 114) [] [AV.pptr [bQ (aT g) [] []] 0 0,AV.pptr [az [iV a,iV i,iV y,iV 0,ak,ak,iV 0,iV 0,iV 0,iV 0,iV 0,iV 0,aV [],ak,ak,ak,ak,ak,aV [],aV [],iV 0,iV 0,aV [],iV 0,iV 0,iV 0,aV [],ak]] 0 0],nV m,nV b],[aZ 28 true 0<|X.map aK])) (fun b=>m+1<=b/\b<=X.length) (fun b=>X.length-b) (by exact⟨by(omega),by(omega)⟩) fun c d e=>have:=d;Ka 3 (Int.ofNat c) (Int.ofNat X.length) (fun _ _=>K1 1 .rix (et (ax 0) (by(simp only[oN,lM,lS]at *;omega):c<X.length))<|Mr (et (ax 0)<|bJ aK (by(simp only[oN,lM,lS]at *;omega):c<(X).length))<|Kp 3 (hq c (by(omega))<|by(simp only[oN]at *;omega))<|Kl 3 21 (iF c)<|K1 0 (.frz 1 [0,1,5,6]) (et (tR 28 true 0 1<|aX xg X) ti)<|Mf<|e (c+1) (by exact⟨by(omega),by(simp only[oN]at *;omega)⟩)<|by(simp only[oN]at *;omega)) fun _ _=>Ko 1 (by exact yJ (xs:=X.map aK) (l:=m) (h:=X.length) (by kernel_rfl) (by rfl) (by rfl) (by omega) (by rw[lM];omega) (by omega) (by omega):bv q (dV (28) q ((some (AV.slice 0 0 0 X.length none))) ((some (nV m))) (none) (none))=some (ARes.val q1 q))<|Mo (by exact AH rfl (by kernel_rfl) (VS (by omega)):fy (wx (28) (AV.agg [iV 0,iV 0,iV 0,iV 0,AV.nils,AV.nils,iV 0,iV 0,iV 0,iV 0,iV 0,iV 0,AV.str [],AV.nils,AV.nils,AV.nils,AV.nils,AV.nils,AV.str [],AV.str [],iV 0,iV 0,AV.str [],iV 0,iV 0,iV 0,AV.str [],AV.nils]) q ((some q1)))=some (ARes.val (AV.tuple []) (av [AObj.row 28 true 0 ((X.take m).map aK++List.replicate (X.length-m) zD)])))<|K1 1 .slc (ch (ax 0) (oA:0<=m) (by(simp only[oN,lM,lS,lA,lR,lC,lN]at * <;>omega):m<=((X.take m).map aK++List.replicate (X.length-m) zD).length))<|Kf 0 b
theorem US(X:List PDeed)(g:Nat)(a i y:Int)(q:PDeed->Bool)(m:Nat)(hq:∀d,kP 114 [aK d,.pptr [vQ g] 0 0,.pptr [Bx a i y] 0 0] (.bool (q d)))(hm:m<X.length)(hs:X.length<2^30)(hA:∀k,k<m->q (gD X k)=false)(hB:∀k,m<=k->k<X.length->q (gD X k)=true):kD 112 [.slice 0 0 0 X.length none,oX g a i y] (av [eT 0 X]) (.slice 0 0 0 m none) (av [MH X m]):=
  Xo X g a i y m (fun k h1 h2=>hB k h1 h2▸hq (gD X k)) hm hs (W9 X g a i y q m hq hm hs hA (hB m (ah _) hm))
theorem UP(X:List PDeed)(g:Nat)(a i y:Int)(q:PDeed->Bool)(hq:∀d,kP 114 [aK d,.pptr [vQ g] 0 0,.pptr [Bx a i y] 0 0] (.bool (q d)))(hs:X.length<2^30)(hA:∀k,k<X.length->q (gD X k)=false):kD 112 [.slice 0 0 0 X.length none,oX g a i y] (av [eT 0 X]) (.slice 0 0 0 X.length none) (av [eT 0 X]):=by
  have hf:=W8 X g a i y q hq hs hA
  exact dE Tryz.func112 fun b=>Ke 2 hf<|Kf 5 b
end Go.Proofs.YtdhkhecalpkngaaGreatDoor
