/- Functions walked: what each of them answers, for For each unit of the book of a day, Addresses contains its current address and Holders of that address contains the unit: part 7. Conditions: those that each theorem names. -/
import Derived.Test.YtdhkhecalpkngaaGreatDoorH6
namespace Go.Proofs.YtdhkhecalpkngaaGreatDoor
open Go Go.Ev
theorem xn:kP 98 [.nils] (.ls ((js []).map aU)):=(jg [] (by simp)).onArgs (.cons Le.nils .nil)
theorem Ee{g:Int->Bool}{K:List Int}{x e:Nat}{S:List PSpan}(h:S=kB g (K.drop (x-1)))(h1:1<=x)(h2:x<K.length)(hg:g (gD K (x-1))=true)(he:e=x+1):S=⟨gD K (x-1),gD K x⟩::kB g (K.drop (e-1)):=by rw[h,CS h1 h2,hg,he]
theorem Ef{g:Int->Bool}{K:List Int}{x e:Nat}{S:List PSpan}(h:S=kB g (K.drop (x-1)))(h1:1<=x)(h2:x<K.length)(hg:g (gD K (x-1))=false)(he:e=x+1):S=kB g (K.drop (e-1)):=by rw[h,CS h1 h2,hg,he]
theorem Z9:bi (ec (qX []))=[]:=qk (by have z:=Bi [];exact Nat.le_zero.1 z)
theorem YD{A B x y:List PSpan}(h1:A=x)(h2:B=y):x++y=A++B:=by rw[h1,h2]
theorem S8{A B x:List PSpan}(h1:A=x)(h2:B=[]):x=A++B:=by rw[h1,h2,eF]
theorem WT{A B y:List PSpan}(h1:A=[])(h2:B=y):y=A++B:=by rw[h1,h2];rfl
theorem VJ{A r:List PSpan}{w:PSpan}(h:A=w::r)(hl:A.length<=1048577):r.length<2^30:=by rw[h,lC]at hl;omega
theorem Ux{A B:List PSpan}{w v:PSpan}{r s:List PSpan}(h:A=w::r)(k:B=v::s)(hl:A.length<=1048577)(kl:B.length<=1048577):small (r.length+1+((v::s).map aU).length) 16=true:=by
  rw[h,lC]at hl;rw[k,lC]at kl
  rw[lM,lC];refine dC (m:=2^31) ?_ ?_ ?_<;>omega
theorem Ll{B:List PSpan}{v:PSpan}{s:List PSpan}(k:B=v::s)(kl:B.length<=1048577):small ((v::s).map aU).length 16=true:=by
  rw[k,lC]at kl
  rw[lM,lC];refine dC (m:=2^31) ?_ ?_ ?_<;>omega
def TZ(F:Nat)(A:List PSpan)(B:List PSpan)(z20:List PSpan):Prop:=z20=A++B
noncomputable def TQ(F:Nat)(A:List PSpan)(B:List PSpan)(z20:List PSpan):List AV×List AObj:=([AV.ls (A.map aU),AV.ls (B.map aU),AV.func (Fn.func F) [] [],AV.nils,AV.ls (z20.map aU),nV z20.length,iV 0],[])
def PZ(F:Nat)(A:List PSpan)(B:List PSpan)(z20:List PSpan)(z37:List Int):Prop:=z37=iN z20
noncomputable def PQ(F:Nat)(A:List PSpan)(B:List PSpan)(z20:List PSpan)(z37:List Int):List AV×List AObj:=([AV.ls (A.map aU),AV.ls (B.map aU),AV.func (Fn.func F) [] [],AV.ls (z37.map bM)],[])
def O9(F:Nat)(A:List PSpan)(B:List PSpan)(z20:List PSpan)(z37:List Int):Prop:=z37=iN z20
noncomputable def O8(F:Nat)(A:List PSpan)(B:List PSpan)(z20:List PSpan)(z37:List Int):List AV×List AObj:=([AV.ls (A.map aU),AV.ls (B.map aU),AV.func (Fn.func F) [] [],AV.ls (z37.map bM)],[])
theorem Nb(F:Nat)(op:Bool->Bool->Bool)(hF:∀x y,bY Tryz.prog G F [.bool x,.bool y] (.bool (op x y)))(e0:op false false=false)(a b:List PSpan)(ha:a.length<2^30)(hb:b.length<2^30):
    bY Tryz.prog G 299 [.ls (a.map aU),.ls (b.map aU),.func (.func F) [] []] (.ls ((tZ op a b).map aU)):=by
  have nA:=jg a ha
  have nB:=jg b hb
  have hA:=m8 a
  have hB:=m8 b
  have hd:=PX e0 (a:=a) (b:=b) rfl rfl
  generalize js a=A at *
  generalize js b=B at *
  have lA:=hA.len
  have lB:=hB.len
  have hasA:∀d,bY Tryz.prog G 97 [.ls (A.map aU),.int .i64 d] (.bool (jU A d)):=fun d=>KX A d hA.sort (by omega)
  have hasB:∀d,bY Tryz.prog G 97 [.ls (B.map aU),.int .i64 d] (.bool (jU B d)):=fun d=>KX B d hB.sort (by omega)
  obtain⟨g,hg⟩:∃g:Int->Bool,g=fun d=>op (jU A d) (jU B d):=⟨_,rfl⟩
  have hgv:∀d v0,op (jU A d) (jU B d)=v0->g d=v0:=fun d v0 h=>by rw[hg];exact h
  rw[<-hg]at hd
  have hcl:∀x,x=A++B->(iN x).length<2^30:=fun x hx=>by
    have z:=Bi x
    rw[hx,eG]at z
    rw[hx];omega
  have hll:∀x,x=A++B->x.length<2^22:=fun x hx=>by rw[hx,eG];omega
  obtain⟨res,hres⟩:∃res,res=tZ op a b:=⟨_,rfl⟩
  rw[<-hres]at hd ⊢
  have hdone:∀x y z,x=A++B->y=iN x->kB g y=z->js z=res:=fun x y z h1 h2 h3=>by rw[<-h3,h2,h1];exact hd
  clear hd hg hres hA hB
  have rr0 b' (h:(List.map aU res)=b':=by first|rfl|exact hdone _ _ _ hz20 hz37 (by rw[hx1.2.2,lT hx1.1 (by(first|omega|(simp only[bW]at *;omega)))])|exact(hdone _ _ _ hz20 hz37 (by rw[hx1.2.2.2.2,lT hx1.1 (by(first|omega|(simp only[bW]at *;omega))),eF]))|(rw[hdone _ _ _ hz20 hz37 (by rw[hx1.2.2,lT hx1.1 (by(first|omega|(simp only[bW]at *;omega)))])])|(rw[hdone _ _ _ hz20 hz37 (by rw[hx1.2.2.2.2,lT hx1.1 (by(first|omega|(simp only[bW]at *;omega))),eF])])):=h;exact b6 Tryz.func299<|Kp 1 nA<|Kp 0 nB<|Mg 2<|M0 .inn<|Mj (List PSpan) [0,1,2,7,20,21,22] (TQ F A B) (TZ F A B) (fun c=>Mg 0<|Mc A (fun e=>Ml 17 (fe<|by rw[e];rfl:Le (aJ []) (aJ (List.map aU A)))<|Mz 17 (fun(_:([]:List AV)=[])=>Mg 1<|Mc B (fun e=>Ml 19 (fe<|by rw[e];rfl:Le (aJ []) (aJ (List.map aU B)))<|Kl 0 20 bO<|Kf 1<|c [] (by exact S8 (by assumption) (by assumption):[]=A++B)) fun e f i=>Ml 19 (fe<|by rw[i]:Le (aJ (List.map aU (e::f))) (aJ (List.map aU B)))<|M2 .apl (et (by exact mo _ _:List.map aU (e::f)≠[])<|fM 2 aU (e::f) fun _=>rfl) (by exact Ll (by assumption) lB:small (List.map aU (e::f)).length 16=true)<|M2 (.fsl 0 [0,1,2,7] 20<|List.map aU<|e::f) True.intro (cF (aV 0) (tA aU (e::f) (List.map aU<|e::f).length (by(simp only[cJ,cO,eG];done):(e::f).length=(List.map aU (e::f)).length))<|aW WM<|e::f)<|Ml 20 (fc (List.map aU<|e::f) false<|aW WM<|e::f)<|Kl 0 21 (ln aU<|e::f)<|Kf 0<|c (e::f) (by exact WT (by assumption) (by assumption):e::f=A++B))<|Mg 1<|Mc B (fun e=>Ml 19 (fe<|by rw[e];rfl:Le (aJ []) (aJ (List.map aU B)))<|Kl 0 20 (fc [] true (aV 0:az ([])=0))<|Kf 1<|c [] (by exact S8 (by assumption) (by assumption):[]=A++B)) fun e f i=>Ml 19 (fe<|by rw[i]:Le (aJ (List.map aU (e::f))) (aJ (List.map aU B)))<|M2 .apl (et (by exact mo _ _:List.map aU (e::f)≠[])<|fM 2 aU (e::f) fun _=>rfl) (by exact Ll (by assumption) lB:small (List.map aU (e::f)).length 16=true)<|M2 (.fsl 0 [0,1,2,7] 20<|List.map aU<|e::f) True.intro (cF (aV 0) (tA aU (e::f) (List.map aU<|e::f).length (by(simp only[cJ,cO,eG];done):(e::f).length=(List.map aU (e::f)).length))<|aW WM<|e::f)<|Ml 20 (fc (List.map aU<|e::f) false<|aW WM<|e::f)<|Kl 0 21 (ln aU<|e::f)<|Kf 0<|c (e::f) (by exact WT (by assumption) (by assumption):e::f=A++B)) fun e f i=>Ml 17 (fe<|by rw[i]:Le (aJ (List.map aU (e::f))) (aJ (List.map aU A)))<|Me (SP e f<|by exact VJ (by assumption) lA)<|Mg 0<|Mc B (fun i=>Ml 19 (fe<|by rw[i];rfl:Le (aJ []) (aJ (List.map aU B)))<|Mg 0<|M2 (.fsl 0 [0,1,2,7] 20<|List.map aU<|e::f) True.intro (cF (aV 0) (tA aU (e::f) (f.length+1) rfl)<|aW WM<|e::f)<|Ml 20 (fc (List.map aU<|e::f) false<|aW WM<|e::f)<|Kl 0 21 (ln aU<|e::f)<|Kf 0<|c (e::f) (by exact S8 (by assumption) (by assumption):e::f=A++B)) fun i j k=>Ml 19 (fe<|by rw[k]:Le (aJ (List.map aU (i::j))) (aJ (List.map aU B)))<|M2 .apl (et (by exact mo _ _:List.map aU (i::j)≠[])<|fM 2 aU (i::j) fun _=>rfl) (cF (aV 0) (by(simp only[cJ,cO,eG];done):f.length+1=(List.map aU (e::f)).length) (by exact Ux (by assumption) (by assumption) lA lB:small (f.length+1+(List.map aU (i::j)).length) 16=true))<|M1 (.obj 0<|aZ 2 true (0+1)<|List.map aU<|e::f++i::j) (congrArg (aZ 2 true<|0+1)<|cT (f:=aU) (l:=e::f) (ws:=i::j))<|M2 (.fsl 0 [0,1,2,7] 20<|List.map aU<|e::f++i::j) True.intro (cF (aV<|0+1) (tA aU (e::f++i::j) (f.length+1+(List.map aU<|i::j).length) (by(simp only[cJ,cO,eG];done):(e::f++i::j).length=f.length+1+(List.map aU (i::j)).length))<|aW WM<|e::f++i::j)<|Ml 20 (fc (List.map aU<|e::f++i::j) false<|aW WM<|e::f++i::j)<|Kl 0 21 (ln aU<|e::f++i::j)<|Kf 0<|c (e::f++i::j) (by exact YD (by assumption) (by assumption):e::f++i::j=A++B)) fun c hz20=>have hz20:=hz20;ka Nat Nat (List Int) aU c [0,1,2,7,20,21,22] (fun e _=>([aJ<|A.map aU,aJ<|B.map aU,bx (bz F) [] [],ab,aJ<|c.map aU,nV c.length,nV e],[])) (fun e _ f i j=>([aJ<|A.map aU,aJ<|B.map aU,bx (bz F) [] [],bQ 0 f 0 i none,aJ<|c.map aU,nV c.length,nV e],[aZ 1 true f<|j.map bM])) (fun e=>qX c=qX e) (fun e _ f i=>f=i.length/\(0:Nat)<i.length/\qX c=i++qX e) (by rfl) (fun _ _ _ _ _ e f=>Kh 0 e<|Kp 0 Hi<|Mj (List Int) [0,1,2,7] (PQ F A B c) (PZ F A B c) (fun e=>Kl 1 37 bO<|Kf 0<|e [] (by(unfold iN;rw[f];exact Z9.symm):[]=iN c)) fun e hz37=>have hz37:=hz37;have:=hz37▸hcl _ hz20;Mg 1<|TH Nat Nat Nat (List PSpan) (1:Nat) [0,1,2,7,10,11] (fun c=>([aJ<|A.map aU,aJ<|B.map aU,bx (bz F) [] [],aJ<|e.map bM,ab,nV c],[])) (fun c f i j=>([aJ<|A.map aU,aJ<|B.map aU,bx (bz F) [] [],aJ<|e.map bM,bQ 0 f 0 i none,nV c],[aZ 2 true f<|j.map aU])) (fun c=>(1:Nat)<=c/\c<=2^30/\kB g e=kB g (e.drop<|c-1)) (fun c _ f i=>(1:Nat)<=c/\c<=2^30/\f=i.length/\i.length<c/\kB g e=i++kB g (e.drop<|c-1)) (fun c=>2^31-c) (fun c _ _ _=>2^31-c) (by exact⟨af _,by omega,rfl⟩) (fun c hx1 f i=>have hx1:=hx1;have:=hx1.1;have:=hx1.2.1;Kl 2 40 (ln bM e)<|Ka 0 (Int.ofNat c) (Int.ofNat e.length) (fun _ _=>Kl 2 46 (FP c)<|Mx (bd bM (by(simp only[bW,cJ,lx]at *;omega):c-1<(e).length))<|Kp 4 (hasA<|gD e<|c-1)<|Kp 1 (hasB<|gD e<|c-1)<|Mp (hF (jU A<|gD e<|c-1)<|jU B<|gD e<|c-1)<|Mb (op (jU A<|gD e<|c-1)<|jU B<|gD e<|c-1) (fun _=>Kx 3 (bd bM (by(simp only[bW,cJ,lx]at *;omega):c<(e).length))<|Kl 6 43 (kf c)<|Kf 0<|i (c+1) 0 1 [PSpan.mk (gD e<|c-1)<|gD e c] (by exact⟨by(omega),by(simp only[bW]at *;omega),rfl,by(simp only[cO,iW];omega),Ee hx1.2.2 hx1.1 (by(simp only[bW]at *;omega)) (hgv _ _ (by assumption)) rfl⟩)<|by(omega)) fun _=>Kl 1 43 (kf c)<|Kf 0<|f (c+1) (by exact⟨by(omega),by(simp only[bW]at *;omega),Ef hx1.2.2 hx1.1 (by(simp only[bW]at *;omega)) (hgv _ _ (by assumption)) rfl⟩)<|by(omega)) fun _ _=>Kp 0 xn<|Kf 0<|ct<|rr0<|List.map aU<|js []) fun c i j k hx1 _ l=>have hx1:=hx1;have:=hx1.1;have:=hx1.2.1;Kl 2 40 (ln bM e)<|Ka 0 (Int.ofNat c) (Int.ofNat e.length) (fun _ _=>Kl 2 46 (FP c)<|Mx (bd bM (by(simp only[bW,cJ,lx]at *;omega):c-1<(e).length))<|Kp 4 (hasA<|gD e<|c-1)<|Kp 1 (hasB<|gD e<|c-1)<|Mp (hF (jU A<|gD e<|c-1)<|jU B<|gD e<|c-1)<|Mb (op (jU A<|gD e<|c-1)<|jU B<|gD e<|c-1) (fun _=>Kx 3 (bd bM (by(simp only[bW,cJ,lx]at *;omega):c<(e).length))<|K1 2 .app (cF (aV i) (by(rw[cJ];first|exact f.1|exact hx1.2.2.1):j=(List.map aU k).length) (by(refine dC (m:=2^31) ?_ ?_ ?_<;>first|omega|(simp only[cJ,cO,eG,iW];omega)|(have z:=congrArg List.length f.2.2;rw[lX,eG]at z;have z9:=hll _ hz20;have z2:=f.1;first|omega|(simp only[cO,iW];omega))|(have z:=hx1.2.2.2.1;have z2:=hx1.2.2.1;have z3:=hx1.2.1;first|omega|(simp only[cO,iW];omega))):small (j+1) 16=true))<|M1 (.obj 0<|aZ 2 true (i+1)<|List.map aU<|k++[PSpan.mk (gD e<|c-1)<|gD e c]) (congrArg (aZ 2 true<|i+1)<|cT (f:=aU) (l:=k) (ws:=[PSpan.mk (gD e<|c-1)<|gD e c]))<|Kl 2 43 (kf c)<|Kf 0<|l (c+1) (i+1) (j+1) (k++[PSpan.mk (gD e<|c-1)<|gD e c]) (by exact⟨by(omega),by(simp only[bW]at *;omega),by rw[eG,<-hx1.2.2.1];rfl,by(have z:=hx1.2.2.2.1;simp only[eG,cO,iW];omega),by rw[hx1.2.2.2.2,Ee rfl hx1.1 (by(simp only[bW]at *;omega)) (hgv _ _ (by assumption)) rfl];simp⟩)<|by(omega)) fun _=>Kl 1 43 (kf c)<|Kf 0<|l (c+1) i j k (by exact⟨by(omega),by(simp only[bW]at *;omega),hx1.2.2.1,by(have z:=hx1.2.2.2.1;omega),by rw[hx1.2.2.2.2,Ef rfl hx1.1 (by(simp only[bW]at *;omega)) (hgv _ _ (by assumption)) rfl]⟩)<|by(omega)) fun _ _=>Mg 0<|M2 (.fsl 0 [] 66<|List.map aU k) True.intro (cF (aV i) (tA aU k j (by(omega):(k).length=j))<|aW WM k)<|Ml 66 (fc (List.map aU k) false<|aW WM k)<|Mp (jg k<|by(omega))<|Kf 0<|ct<|rr0<|List.map aU<|js k) (fun e _ _ _ f i _ j _ k _ l n=>have:=hll _ hz20;Kt 0 k<|Mx l<|Kl 11 33 (kf e)<|Mg 0<|M0 (.ren [1,0] [] [0,1,2,7,20,21,22])<|M1 (.frz 1 [0,1,2,7,20,21,22]) (et (aV true) True.intro)<|Mf<|j 0 2 [f.from_,f.to]<|by exact⟨rfl,by simp,by rw[n];rfl⟩) (fun _ _ e f i _ _ _ j k=>Kh 0 j<|Ke 0 (J8 i e f (by(omega)) (by(omega))<|by(have z:=congrArg List.length k.2.2;rw[lX,eG]at z;have z9:=hll _ hz20;omega))<|Mj (List Int) [0,1,2,7] (O8 F A B c) (O9 F A B c) (fun j=>Ke 0 (Cw (ec i) e f (by(rw[(lf _).length_eq];first|exact k.1|exact k.2.1|(have z:=congrArg List.length k.2.2;rw[lX,eG]at z;have z9:=hll _ hz20;omega))) (by(rw[(lf _).length_eq];first|exact k.1|exact k.2.1|(have z:=congrArg List.length k.2.2;rw[lX,eG]at z;have z9:=hll _ hz20;omega)))<|by(rw[(lf _).length_eq];first|exact k.1|exact k.2.1|(have z:=congrArg List.length k.2.2;rw[lX,eG]at z;have z9:=hll _ hz20;omega)))<|M2 (.fsl 0 [0,1,2] 37<|List.map bM<|List.take (bi<|ec i).length<|bi (ec i)++List.replicate ((ec i).length -(bi<|ec i).length) 0) True.intro (cF (aV e) (CM (f:=bM) (l:=bi (ec i)++List.replicate ((ec i).length -(bi<|ec i).length) 0) (n:=(bi<|ec i).length))<|aW Ym<|List.take (bi<|ec i).length<|bi (ec i)++List.replicate ((ec i).length -(bi<|ec i).length) 0)<|Ml 37 (fc (List.map bM<|List.take (bi<|ec i).length<|bi (ec i)++List.replicate ((ec i).length -(bi<|ec i).length) 0) false<|aW Ym<|List.take (bi<|ec i).length<|bi (ec i)++List.replicate ((ec i).length -(bi<|ec i).length) 0)<|Kf 0<|j (List.take (bi<|ec i).length<|bi (ec i)++List.replicate ((ec i).length -(bi<|ec i).length) 0) (by(unfold iN;rw[k.2.2];simp[qX]):List.take (bi (ec i)).length (bi (ec i)++List.replicate ((ec i).length -(bi (ec i)).length) (0:Int))=iN c)) fun e hz37=>have hz37:=hz37;have:=hz37▸hcl _ hz20;Mg 1<|TH Nat Nat Nat (List PSpan) (1:Nat) [0,1,2,7,10,11] (fun c=>([aJ<|A.map aU,aJ<|B.map aU,bx (bz F) [] [],aJ<|e.map bM,ab,nV c],[])) (fun c f i j=>([aJ<|A.map aU,aJ<|B.map aU,bx (bz F) [] [],aJ<|e.map bM,bQ 0 f 0 i none,nV c],[aZ 2 true f<|j.map aU])) (fun c=>(1:Nat)<=c/\c<=2^30/\kB g e=kB g (e.drop<|c-1)) (fun c _ f i=>(1:Nat)<=c/\c<=2^30/\f=i.length/\i.length<c/\kB g e=i++kB g (e.drop<|c-1)) (fun c=>2^31-c) (fun c _ _ _=>2^31-c) (by exact⟨af _,by omega,rfl⟩) (fun c hx1 f i=>have hx1:=hx1;have:=hx1.1;have:=hx1.2.1;Kl 2 40 (ln bM e)<|Ka 0 (Int.ofNat c) (Int.ofNat e.length) (fun _ _=>Kl 2 46 (FP c)<|Mx (bd bM (by(simp only[bW,cJ,lx]at *;omega):c-1<(e).length))<|Kp 4 (hasA<|gD e<|c-1)<|Kp 1 (hasB<|gD e<|c-1)<|Mp (hF (jU A<|gD e<|c-1)<|jU B<|gD e<|c-1)<|Mb (op (jU A<|gD e<|c-1)<|jU B<|gD e<|c-1) (fun _=>Kx 3 (bd bM (by(simp only[bW,cJ,lx]at *;omega):c<(e).length))<|Kl 6 43 (kf c)<|Kf 0<|i (c+1) 0 1 [PSpan.mk (gD e<|c-1)<|gD e c] (by exact⟨by(omega),by(simp only[bW]at *;omega),rfl,by(simp only[cO,iW];omega),Ee hx1.2.2 hx1.1 (by(simp only[bW]at *;omega)) (hgv _ _ (by assumption)) rfl⟩)<|by(omega)) fun _=>Kl 1 43 (kf c)<|Kf 0<|f (c+1) (by exact⟨by(omega),by(simp only[bW]at *;omega),Ef hx1.2.2 hx1.1 (by(simp only[bW]at *;omega)) (hgv _ _ (by assumption)) rfl⟩)<|by(omega)) fun _ _=>Kp 0 xn<|Kf 0<|ct<|rr0<|List.map aU<|js []) fun c f i j hx1 _ l=>have hx1:=hx1;have:=hx1.1;have:=hx1.2.1;Kl 2 40 (ln bM e)<|Ka 0 (Int.ofNat c) (Int.ofNat e.length) (fun _ _=>Kl 2 46 (FP c)<|Mx (bd bM (by(simp only[bW,cJ,lx]at *;omega):c-1<(e).length))<|Kp 4 (hasA<|gD e<|c-1)<|Kp 1 (hasB<|gD e<|c-1)<|Mp (hF (jU A<|gD e<|c-1)<|jU B<|gD e<|c-1)<|Mb (op (jU A<|gD e<|c-1)<|jU B<|gD e<|c-1) (fun _=>Kx 3 (bd bM (by(simp only[bW,cJ,lx]at *;omega):c<(e).length))<|K1 2 .app (cF (aV f) (by(rw[cJ];first|exact k.1|exact hx1.2.2.1):i=(List.map aU j).length) (by(refine dC (m:=2^31) ?_ ?_ ?_<;>first|omega|(simp only[cJ,cO,eG,iW];omega)|(have z:=congrArg List.length k.2.2;rw[lX,eG]at z;have z9:=hll _ hz20;have z2:=k.1;first|omega|(simp only[cO,iW];omega))|(have z:=hx1.2.2.2.1;have z2:=hx1.2.2.1;have z3:=hx1.2.1;first|omega|(simp only[cO,iW];omega))):small (i+1) 16=true))<|M1 (.obj 0<|aZ 2 true (f+1)<|List.map aU<|j++[PSpan.mk (gD e<|c-1)<|gD e c]) (congrArg (aZ 2 true<|f+1)<|cT (f:=aU) (l:=j) (ws:=[PSpan.mk (gD e<|c-1)<|gD e c]))<|Kl 2 43 (kf c)<|Kf 0<|l (c+1) (f+1) (i+1) (j++[PSpan.mk (gD e<|c-1)<|gD e c]) (by exact⟨by(omega),by(simp only[bW]at *;omega),by rw[eG,<-hx1.2.2.1];rfl,by(have z:=hx1.2.2.2.1;simp only[eG,cO,iW];omega),by rw[hx1.2.2.2.2,Ee rfl hx1.1 (by(simp only[bW]at *;omega)) (hgv _ _ (by assumption)) rfl];simp⟩)<|by(omega)) fun _=>Kl 1 43 (kf c)<|Kf 0<|l (c+1) f i j (by exact⟨by(omega),by(simp only[bW]at *;omega),hx1.2.2.1,by(have z:=hx1.2.2.2.1;omega),by rw[hx1.2.2.2.2,Ef rfl hx1.1 (by(simp only[bW]at *;omega)) (hgv _ _ (by assumption)) rfl]⟩)<|by(omega)) fun _ _=>Mg 0<|M2 (.fsl 0 [] 66<|List.map aU j) True.intro (cF (aV f) (tA aU j i (by(omega):(j).length=i))<|aW WM j)<|Ml 66 (fc (List.map aU j) false<|aW WM j)<|Mp (jg j<|by(omega))<|Kf 0<|ct<|rr0<|List.map aU<|js j) fun e _ f i j _ _ k l _ n _ o _ p q=>have:=hll _ hz20;Kt 0 o<|Mx p<|K1 8 .app (cF (aV f) (by(rw[cJ];first|exact q.1|exact hx1.2.2.1):i=(List.map bM j).length) (by(refine dC (m:=2^31) ?_ ?_ ?_<;>first|omega|(simp only[cJ,cO,eG,iW];omega)|(have z:=congrArg List.length q.2.2;rw[lX,eG]at z;have z9:=hll _ hz20;have z2:=q.1;first|omega|(simp only[cO,iW];omega))|(have z:=hx1.2.2.2.1;have z2:=hx1.2.2.1;have z3:=hx1.2.1;first|omega|(simp only[cO,iW];omega))):small (i+2) 8=true))<|M1 (.obj 0<|aZ 1 true (f+1)<|List.map bM<|j++[k.from_,k.to]) (congrArg (aZ 1 true<|f+1)<|cT (f:=bM) (l:=j) (ws:=[k.from_,k.to]))<|Kl 1 33 (kf e)<|K1 0 (.frz 1 [0,1,2,7,20,21,22]) (et (tR 1 true (f+1) 1<|aW Ym<|j++[k.from_,k.to]) True.intro)<|Mf<|n (f+1) (i+2) (j++[k.from_,k.to])<|by exact⟨by rw[eG,<-q.1];rfl,by simp,by rw[q.2.2,DB];simp⟩
theorem Xr(x y:Bool):kP 300 [.bool x,.bool y] (.bool (x||y)):=by
  have rr0 b' (h:(x||y)=b':=by simp only[aS,aj,bS, *]):=h;exact b6 Tryz.func300<|Kb 2 x (fun a=>MV a<|Ky 0<|rr0 true) fun a=>Kw 0 a<|Ky 0<|rr0 y
theorem Ww(x y:Bool):kP 301 [.bool x,.bool y] (.bool (x&&y)):=by
  have rr0 b' (h:(x&&y)=b':=by simp only[aS,aj,bS, *]):=h;exact b6 Tryz.func301<|Kb 2 x (fun a=>Ku 0 a<|Ky 0<|rr0 y) fun a=>My a<|Ky 0<|rr0 false
theorem PI(a b:List PSpan)(ha:a.length<2^30)(hb:b.length<2^30):kP 266 [.ls (a.map aU),.ls (b.map aU)] (.ls ((tZ (· || ·) a b).map aU)):=by
  have h:=Nb 300 (· || ·) Xr rfl a b ha hb
  exact b6 Tryz.func266<|Kp 2 h<|Kf 0<|bo<|aJ<|(tZ (fun c d=>c||d) a b).map aU
theorem Rn(a b:List PSpan)(ha:a.length<2^30)(hb:b.length<2^30):kP 268 [.ls (a.map aU),.ls (b.map aU)] (.ls ((tZ (· && ·) a b).map aU)):=by
  have h:=Nb 301 (· && ·) Ww rfl a b ha hb
  exact b6 Tryz.func268<|Kp 2 h<|Kf 0<|bo<|aJ<|(tZ (fun c d=>c&&d) a b).map aU
noncomputable def pd(a:List PSpan)(d:Int):List PSpan:=tZ (· && ·) a [⟨0,d⟩]
noncomputable def qC(a:List PSpan)(d:Int):List PSpan:=tZ (· || ·) (pd a d) [⟨d,1048577⟩]
theorem tU(a:List PSpan)(d:Int):NrmS (pd a d):=Ab _
theorem vd(a:List PSpan)(d:Int):NrmS (qC a d):=Ab _
theorem Gk(a:List PSpan)(d:Int)(ha:a.length<2^30):kP 218 [.ls (a.map aU),iV d] (.ls ((pd a d).map aU)):=by
  have h:kP 268 [.ls (a.map aU),.ps [aU ⟨0,d⟩] true] (.ls ((pd a d).map aU)):=(Rn a [⟨0,d⟩] ha (by simp)).onArgs (.cons (Le.refl _) (.cons (Le.ps _ _ rfl) .nil))
  exact b6 Tryz.func218<|Kp 4 h<|Kf 0<|bo<|aJ<|(pd a d).map aU
theorem Sv(a:List PSpan)(d:Int)(ha:a.length<2^30):kP 216 [.ls (a.map aU),iV d] (.ls ((qC a d).map aU)):=by
  have h0:=Gk a d ha
  have hl:=(tU a d).len
  have h:kP 266 [.ls ((pd a d).map aU),.ps [aU ⟨d,1048577⟩] true] (.ls ((qC a d).map aU)):=(PI (pd a d) [⟨d,1048577⟩] (by omega) (by simp)).onArgs (.cons (Le.refl _) (.cons (Le.ps _ _ rfl) .nil))
  exact b6 Tryz.func216<|Kp 2 h0<|Kp 2 h<|Kf 0<|bo<|aJ<|(qC a d).map aU
noncomputable def s7(k:Int):Bool:=aa k 7||aa k 9
noncomputable def lE(k:Int):Bool:=s7 k||aa k 8
noncomputable def sM(k:Int):AV:=match s7 k with|true=>.func (.func 216) [] []|false=>match aa k 8 with|true=>.func (.func 218) [] []|false=>.nilf
theorem Ar(k:Int):eS (some .nilf) true (bw false 1 [(0,1)] (iV k) [⟨iV 7,.func (.func 216) [] [],0⟩,⟨iV 9,.func (.func 216) [] [],1⟩,⟨iV 8,.func (.func 218) [] [],2⟩] 0)=some (.tuple [sM k,.bool (lE k)]):=by
  unfold sM lE s7
  simp only[bw,rg,KA,lk]
  cases h1:aa k 7<;>cases h2:aa k 9<;>cases h3:aa k 8<;>rfl
theorem PP{k:Int}(h:s7 k=true):Le (.func (.func 216) [] []) (sM k):=by unfold sM;rw[h];exact Le.refl _
theorem T9{k:Int}(h:s7 k=false)(h2:lE k=true):Le (.func (.func 218) [] []) (sM k):=by
  unfold lE at h2;rw[h,Bool.false_or]at h2
  unfold sM;rw[h,h2];exact Le.refl _
noncomputable def PR:List AEnt:=[⟨iV 7,.func (.func 216) [] [],0⟩,⟨iV 9,.func (.func 216) [] [],1⟩,⟨iV 8,.func (.func 218) [] [],2⟩]
theorem T7(x:PItem):kD 141 [] (aw [.row 25 false 0 [eI x]]) (.map 1) (aw [.row 25 false 0 [eI x],.map PR 3]):=by
  exact dL Tryz.func141 fun a=>Kf 6 a
theorem T8(s:PStart)(d o:PDeed):kD 141 [] (aw [.row 3 false 0 [aC s],.row 28 false 0 [aq d],.row 28 false 0 [aq o]]) (.map 3) (aw [.row 3 false 0 [aC s],.row 28 false 0 [aq d],.row 28 false 0 [aq o],.map PR 3]):=by
  exact dL Tryz.func141 fun a=>Kf 6 a
noncomputable def r9(x:PItem)(a i:Int):Bool:=aa x.act a&&(match aa x.kind 11 with|true=>aa x.item i|false=>lE x.kind&&(aa x.item i||aa x.item (-1)))
theorem N4(x:PItem)(a i:Int):kP 142 [eI x,iV a,iV i] (.bool (r9 x a i)):=by
  have hlk:=Ar
  have rr0 b' (h:(r9 x a i)=b':=by unfold r9;generalize aa x.act a=p1 at *;generalize aa x.kind 11=p2 at *;generalize aa x.item i=p3 at *;generalize aa x.item (-1)=p4 at *;generalize lE x.kind=p5 at *;simp only[aS,aj,bS, *]):=h;let q:=[ak (iLx x)];let q1:=bx (bz 216) [] [];exact b6 Tryz.func142<|Kc 5 x.act a (fun _ _=>Ky 0<|rr0 false) fun _ _=>Kj 2 x.kind 11 (fun _ _=>Kf 4<|cC<|rr0<|aa x.item i) fun _ _=>M3 (.efx true (AV.map 1)<|aw [aZ 25 false 0 q,AObj.map [AEnt.mk (iV 7) q1 0,AEnt.mk (iV 9) q1 1,AEnt.mk (iV 8) (bx (bz 218) [] []) 2] 3]) (et rt ti) (et (aV<|some<|aZ 25 false 0 q) ti) (T7 x)<|K1 1 (.look<|bP [sM x.kind,dU<|lE x.kind]) (hlk x.kind)<|Kb 6 (lE x.kind) (fun b=>Kt 0 b<|Kt 0 b<|Kt 0 b<|Kt 0 b<|Kj 0 x.item i (fun c _=>Mt c<|Mt c<|Mt b<|MV c<|MV b<|Ky 0<|rr0 true) fun c _=>Kh 0 c<|Kh 0 c<|Kt 0 b<|My c<|MV b<|Kf 0<|cC<|rr0<|aa x.item (-1)) fun b=>Mh b<|Mh b<|Mh b<|Mh b<|Mh b<|My b<|Ky 0<|rr0 false
noncomputable abbrev iU(nm:au):AObj:=.row 1 false 0 [.str nm]
noncomputable def tQ(nm:au)(d:PDeed):Bool:=aa d.it.kind 10&&dH d.it.event nm
theorem Sa(nm:au)(d:PDeed):kD 267 [aq d,.ptr 0 0 0 0] (aw [iU nm]) (.bool (tQ nm d)) (aw [iU nm]):=by
  let q:=aw [aZ 1 false 0 [ax nm]];exact GJ Tryz.func267<|Kj 6 d.it.kind 10 (fun a _=>Kt 0 a<|Kt 0 a<|Kt 0 a<|Kt 0 a<|Ku 0 a<|K1 0 (.frz 1 [3]) (et rt ti)<|Mf<|et (by unfold tQ;generalize aa d.it.kind 10=p1 at *;generalize dH d.it.event nm=p2 at *;simp only[aS,aj,bS, *]:(AV.bool (dH d.it.event nm))=(AV.bool (tQ nm d)))<|aV q) fun a _=>Mh a<|Mh a<|Mh a<|Mh a<|My a<|K1 0 (.frz 1 [3]) (et rt ti)<|Mf<|et (by unfold tQ;generalize aa d.it.kind 10=p1 at *;generalize dH d.it.event nm=p2 at *;simp only[aS,aj,bS, *]:(AV.bool false)=(AV.bool (tQ nm d)))<|aV q
noncomputable def jC(nm:au):List PDeed->Nat->Int
  |[],_=> -1
  |d::r,i=>match tQ nm d with|true=>Int.ofNat i|false=>jC nm r (i+1)
theorem MH(nm:au):∀(l:List PDeed)(i:Nat),jC nm l i<Int.ofNat (i+l.length)/\(0<=jC nm l i\/jC nm l i= -1)
  |[],i=>⟨by simp only[jC,oN];omega,.inr rfl⟩
  | d::r,i=>by
    have:=MH nm r (i+1)
    cases h:tQ nm d<;>simp only[jC,h,oN,lC]at * <;>omega
theorem ZS{nm:au}{d:PDeed}{r:List PDeed}{i:Nat}(h:tQ nm d=true):jC nm (d::r) i=Int.ofNat i:=by simp only[jC,h]
theorem ZT{nm:au}{d:PDeed}{r:List PDeed}{i:Nat}(h:tQ nm d=false):jC nm (d::r) i=jC nm r (i+1):=by simp only[jC,h]
theorem Dd(nm:au)(l:List PDeed)(hl:l.length<2^40):kD 121 [.ls (l.map aq),.func (.func 267) [] [.ptr 0 0 0 0]] (aw [iU nm]) (iV (jC nm l 0)) (aw [iU nm]):=by
  let q:=aw [aZ 1 false 0 [ax nm]];exact GJ Tryz.func121<|Kl 2 7 (ln aq l)<|Mg 0<|wS aq l [0,1,7,8] (fun a _=>([aJ<|l.map aq,bx (bz 267) [] [ah 0 0 0 0],nV l.length,nV a],[aZ 1 false 0 [ax nm]])) (fun a=>jC nm l (0:Nat)=jC nm a (l.length-a.length)) (by(rw[Nat.sub_self])) (fun _ _ _ _ _ a b=>Kh 0 a<|Kf 0<|et (by(rw[b];rfl):(iV (-1))=(iV (jC nm l 0)))<|aV q) fun a _ b _ c d e f g _ h i=>have:=iT b f;Kt 0 g<|Kx 4 h<|Ke 0 (Sa nm c)<|Mb (tQ nm c) (fun _=>Kf 1<|et (by(rw[i,ZS (by assumption)];congr 2;have z:=Jo (b.trans f) (by simp) (by simp only[lC];omega:(l.length-(d.length+1))+(c::d).length=l.length);exact z):(nV a)=(iV (jC nm l 0)))<|aV q) fun _=>Kl 0 18 (dq a)<|Kf 0<|e<|by(rw[i,ZT (by assumption)];congr 1;have:=iT b f;simp only[lC];omega)
theorem Sy(d:Int):kP 216 [.nils,iV d] (.ls ((qC [] d).map aU)):=(Sv [] d (by simp)).onArgs (.cons Le.nils (.cons (Le.refl _) .nil))
theorem Ki(nm:au)(l:List PDeed)(hl:l.length<2^40)(h:aL (jC nm l 0) 0=true):kP 217 [.str nm,.ls (l.map aq)] (.tuple [iV 0,.bool false]):=by
  exact b6 Tryz.func217<|Ke 4 (Dd nm l hl)<|Kt 2 h<|Kf 1<|bo<|bP [iV 0,dU false]
theorem Km(nm:au)(l:List PDeed)(hl:l.length<2^40)(h:aL (jC nm l 0) 0=false):kP 217 [.str nm,.ls (l.map aq)] (.tuple [iV (gD l (jC nm l 0).toNat).it.day,.bool true]):=by
  have g1:=aG h
  have g2:=(MH nm l 0).1
  exact b6 Tryz.func217<|Ke 4 (Dd nm l hl)<|Kh 2 h<|Kl 1 13 (BS (x:=jC nm l 0) oA)<|Mx (bd aq (by(simp only[oN,lM,lS]at *;omega):(jC nm l 0).toNat<(l).length))<|Kf 4<|bo<|bP [iV (gD l (jC nm l 0).toNat).it.day,dU true]
noncomputable def mY(s:PStart)(l:List PDeed):List PSpan:=match aa s.kind 1 with|true=>qC [] s.day|false=>match aa s.kind 3 with|true=>(match aL (jC s.event l 0) 0 with|true=>[]|false=>qC [] (gD l (jC s.event l 0).toNat).it.day)|false=>[]
theorem On(s:PStart)(l:List PDeed)(hl:l.length<2^40)(hi:aL (jC s.event l 0) 0=true):kP 139 [aC s,.ls (l.map aq)] (.ls ((mY s l).map aU)):=by
  have he:=Ki s.event l hl hi
  have e:mY s l=match aa s.kind 1 with|true=>qC [] s.day|false=>[]:=(by unfold mY;rw[hi];cases aa s.kind 1<;>cases aa s.kind 3<;>rfl)
  rw[e]
  have rr0 b' (h:((match aa s.kind 1 with|true=>qC [] s.day|false=>[]).map aU)=b':=by generalize aa s.kind 1=p1 at *;(rw[h0]);try rfl):=h;exact b6 Tryz.func139<|Kj 5 s.kind 1 (fun h0 _=>Kp 1 (Sy s.day)<|Kf 0<|ct<|rr0<|(qC [] s.day).map aU) fun h0 _=>Kj 1 s.kind 3 (fun _ _=>Kp 2 he<|Kf 7 (Le.lsn<|rr0 []:Le _ (ab))) fun _ _=>Kf 0 (Le.lsn<|rr0 []:Le _ (ab))
theorem Oo(s:PStart)(l:List PDeed)(hl:l.length<2^40)(hi:aL (jC s.event l 0) 0=false):kP 139 [aC s,.ls (l.map aq)] (.ls ((mY s l).map aU)):=by
  have he:=Km s.event l hl hi
  have e:mY s l=match aa s.kind 1 with|true=>qC [] s.day|false=>match aa s.kind 3 with|true=>qC [] (gD l (jC s.event l 0).toNat).it.day |false=>[]:=(by unfold mY;rw[hi])
  rw[e]
  have rr0 b' (h:((match aa s.kind 1 with|true=>qC [] s.day|false=>match aa s.kind 3 with|true=>qC [] (gD l (jC s.event l 0).toNat).it.day |false=>[]).map aU)=b':=by generalize aa s.kind 1=p1 at *;generalize aa s.kind 3=p3 at *;(rw[h0]);(first|rw[h1]|skip);try rfl):=h;exact b6 Tryz.func139<|Kj 5 s.kind 1 (fun h0 _=>Kp 1 (Sy s.day)<|Kf 0<|ct<|rr0<|(qC [] s.day).map aU) fun h0 _=>Kj 1 s.kind 3 (fun h1 _=>Kp 2 he<|Kp 7 (Sy (gD l (jC s.event l 0).toNat).it.day)<|Kf 0<|ct<|rr0<|(qC [] (gD l (jC s.event l 0).toNat).it.day).map aU) fun h1 _=>Kf 0 (Le.lsn<|rr0 []:Le _ (ab))
theorem KQ(s:PStart)(l:List PDeed)(hl:l.length<2^40):kP 139 [aC s,.ls (l.map aq)] (.ls ((mY s l).map aU)):=by
  cases hi:aL (jC s.event l 0) 0
  · exact Oo s l hl hi
  · exact On s l hl hi
noncomputable def tk(d o:PDeed)(days:List PSpan):List PSpan:=match lE o.it.kind&&r9 o.it d.act d.item with|true=>(match s7 o.it.kind with|true=>qC days o.it.day|false=>pd days o.it.day)|false=>days
noncomputable def mp(d:PDeed):List PDeed->List PSpan->List PSpan
  |[],days=>days
  |o::r,days=>mp d r (tk d o days)
noncomputable def eQ(s:PStart)(d:PDeed)(l:List PDeed):List PSpan:=match aL d.it.kind 0||aL 6 d.it.kind with|true=>[]|false=>mp d l (mY (effS s d.it.start) l)
theorem Ot(s:PStart)(l:List PDeed):(mY s l).length<=1048577:=by
  have h:=fun d=>(vd [] d).len
  unfold mY
  cases aa s.kind 1<;>cases aa s.kind 3<;>cases aL (jC s.event l 0) 0<;>simp only[lN]<;>first|exact h _|omega
theorem nG(s:PStart)(d:PDeed)(l:List PDeed)(hl:l.length<2^40):kP 96 [aC s,aq d,.ls (l.map aq)] (.ls ((eQ s d l).map aU)):=by
  have hlk:=Ar
  have hle1:∀k,s7 k=true->Le (.func (.func 216) [] []) (sM k):=fun k h=>PP h
  have hle2:∀k,s7 k=false->lE k=true->Le (.func (.func 218) [] []) (sM k):=fun k h h2=>T9 h h2
  have hil:=Ot (effS s d.it.start) l
  have hin:∀b,(aL d.it.kind 0||aL 6 d.it.kind)=b->eQ s d l=match b with|true=>[]|false=>mp d l (mY (effS s d.it.start) l):=fun b h=>by unfold eQ;rw[h]
  have hst:∀(o:PDeed)(r:List PDeed)(days:List PSpan),mp d (o::r) days=mp d r (tk d o days):=fun o r days=>rfl
  have rr0 b' (h:((eQ s d l).map aU)=b':=by first|(rw[hin true (by simp only[aS,aj,bS, *];try rfl)];rfl)|(rw[hin false (by simp only[aS,aj,bS, *];try rfl)];first|exact congrArg _ hj0.2|exact congrArg _ hj0.2.symm|(rw[hj0.2];rfl))):=h;let q1:=[ak (dLx d)];let q2:=[ak [iV s.kind,iV s.day,ax s.event]];let q3:=bx (bz 216) [] [];exact b6 Tryz.func96<|Ka 7 d.it.kind 0 (fun a _=>Mt a<|Mt a<|Mt a<|MV a<|Kf 1 (Le.lsn<|rr0 []:Le _ (ab))) fun a _=>Kh 0 a<|Kh 0 a<|Kh 0 a<|Kw 0 a<|Mb (aL 6 d.it.kind) (fun a=>have:=ap a;Kf 0 (Le.lsn<|rr0 []:Le _ (ab))) fun a=>have:=aG a;Kp 3 (Ia s d.it.start)<|Kp 0 (KQ (effS s d.it.start) l hl)<|Kl 2 30 (ln aq l)<|Mg 0<|Pi (0:Nat) l (mY (effS s d.it.start) l) [4,7,29,30,31] (fun a _ c=>([ah 1 0 0 0,aJ<|c.map aU,aJ<|l.map aq,nV l.length,nV a],[aZ 3 false 0 [ak [iV s.kind,iV s.day,ax s.event]],aZ 28 false 0 [ak (dLx d)]])) (fun a c e=>(l).drop a=c/\e.length<=1048577/\mp d l (mY (effS s d.it.start) l)=mp d c e) (fun _ a _=>a.length) (et rfl<|by(exact⟨hil,rfl⟩)) fun a c e f g=>Mc c (fun a=>have c:=eu f.1 a;have hj0:=gJ (J:=fun a c=>c.length<=1048577/\mp d l (mY (effS s d.it.start) l)=mp d a c) (a:=e) a f.2;Kh 0 c<|Kf 1<|ct<|rr0<|e.map aU) fun c i j=>let m:=[ak (dLx c)];have n:=fX f.1 j;have:=ap n;have p:=ei (enc:=aq) f.1 j;have hj0:=cw (J:=fun a c=>c.length<=1048577/\mp d l (mY (effS s d.it.start) l)=mp d a c) (a:=e) j f.2;Kt 0 n<|Mx p<|Mg 2<|M3 (.efx true (AV.map 3)<|aw [aZ 3 false 0 q2,aZ 28 false 0 q1,aZ 28 false 0 m,AObj.map [AEnt.mk (iV 7) q3 0,AEnt.mk (iV 9) q3 1,AEnt.mk (iV 8) (bx (bz 218) [] []) 2] 3]) (kg rt rt rt ti) (kg (aV<|some<|aZ 28 false 0 m) (aV<|some<|aZ 28 false 0 q1) (aV<|some<|aZ 3 false 0 q2) ti) (T8 s d c)<|K1 2 (.look<|bP [sM c.it.kind,dU<|lE c.it.kind]) (hlk c.it.kind)<|Kb 6 (lE c.it.kind) (fun m=>Kt 0 m<|Kt 0 m<|Kt 0 m<|Kt 0 m<|Kt 0 m<|Kt 0 m<|Mp (N4 c.it d.act d.item)<|MV m<|Mb (r9 c.it d.act d.item) (fun _=>Ks 4 (s7 c.it.kind) (fun m=>Ml 53 (hle1 c.it.kind m)<|Mp (Sv e c.it.day oA)<|Kl 1 59 (dq a)<|K1 0 (.frz 2 [4,7,29,30,31]) (cF rt rt ti)<|Mf<|g (a+1) i (qC e c.it.day) (et (bf f.1 j)<|by exact⟨(vd _ _).len,by rw[hj0.2,hst];simp only[tk, *];rfl⟩)<|ed j) fun n=>Ml 53 (hle2 c.it.kind n m)<|Mp (Gk e c.it.day oA)<|Kl 1 59 (dq a)<|K1 0 (.frz 2 [4,7,29,30,31]) (cF rt rt ti)<|Mf<|g (a+1) i (pd e c.it.day) (et (bf f.1 j)<|by exact⟨(tU _ _).len,by rw[hj0.2,hst];simp only[tk, *];rfl⟩)<|ed j) fun _=>Kl 0 59 (dq a)<|K1 0 (.frz 2 [4,7,29,30,31]) (cF rt rt ti)<|Mf<|g (a+1) i e (et (bf f.1 j)<|by exact⟨hj0.1,by rw[hj0.2,hst];simp only[tk,aS,aj,bS, *];try rfl⟩)<|ed j) fun c=>Mh c<|Mh c<|Mh c<|Mh c<|Mh c<|Mh c<|My c<|Kl 1 59 (dq a)<|K1 0 (.frz 2 [4,7,29,30,31]) (cF rt rt ti)<|Mf<|g (a+1) i e (et (bf f.1 j)<|by exact⟨hj0.1,by rw[hj0.2,hst];simp only[tk,aS,aj,bS, *];try rfl⟩)<|ed j
noncomputable abbrev jv(d:Int):AObj:=.row 1 false 0 [iV d]
noncomputable abbrev dR:AObj:=.row 1 false 0 [.nils]
noncomputable abbrev dz(i ep n:Nat):AObj:=.row 1 false 0 [.slice i ep 0 n none]
noncomputable abbrev dt(m:List (Int×PStart)):AObj:=.map (cj aC m 0) m.length
noncomputable abbrev bp(d:PDeed):AObj:=.row 28 false 0 [aq d]
noncomputable abbrev qu(ep:Nat)(l:List PDeed):AObj:=.row 28 true ep (l.map aq)
def eb:PStart:=⟨0,0,[]⟩
def dh(m:List (Int×PStart))(k:Int):PStart:=(ic k m).getD eb
theorem As(m:List (Int×PStart))(k:Int):eS (some (.agg [iV 0,iV 0,.str []])) false (bw false 1 [(0,1)] (iV k) (cj aC m 0) 0)=some (aC (dh m k)):=by
  rw[Au]
  cases h:ic k m<;>simp only[dh,h,Option.getD]<;>rfl
theorem CE(m:List (Int×PStart))(a:PAct):qt (cj aC m 0) m.length (iV a.number) (.agg [iV a.start.kind,iV a.start.day,.str a.start.event]) (bw false 1 [(0,1)] (iV a.number) (cj aC m 0) 0)=some (cj aC (lg a.number a.start m) 0,(lg a.number a.start m).length):=CF (f:=aC) a.number a.start m
def yt(l:List PAct)(m:List (Int×PStart)):List (Int×PStart):=l.foldl (fun m a=>lg a.number a.start m) m
theorem Hu(s:PStart)(d:PDeed)(l:List PDeed):NrmS (eQ s d l):=by
  have h1:∀(s:PStart),NrmS (mY s l):=fun s=>by
    unfold mY
    cases aa s.kind 1<;>cases aa s.kind 3<;>cases aL (jC s.event l 0) 0<;>first|exact yF|exact vd _ _
  have h2:∀(r:List PDeed)(days:List PSpan),NrmS days->NrmS (mp d r days):=by
    intro r
    induction r with
    |nil=>intro days h;exact h
    | cons o r ih=>
      intro days h
      refine ih _ ?_
      unfold tk
      cases lE o.it.kind&&r9 o.it d.act d.item<;>cases s7 o.it.kind<;>first|exact h|exact vd _ _|exact tU _ _
  unfold eQ
  cases aL d.it.kind 0||aL 6 d.it.kind
  · exact h2 l _ (h1 _)
  · exact yF
theorem nH(s:PStart)(d:PDeed)(l:List PDeed)(day:Int):kP 57 [.ls ((eQ s d l).map aU),iV day] (.bool (jU (eQ s d l) day)):=by
  have hn:=Hu s d l
  have h:=It (eQ s d l) day (oB hn.len (by decide))
  rwa[show js (eQ s d l)=eQ s d l from(UL hn).symm]at h
noncomputable def Yk(p:au)(d:PDeed):Bool:=dH d.it.for_ []||dH d.it.for_ p
noncomputable def C8(day:Int)(p:au)(m:List (Int×PStart))(ds:List PDeed)(d:PDeed):Bool:=Yk p d&&jU (eQ (dh m d.act) d ds) day
noncomputable def s5(day:Int)(p:au)(m:List (Int×PStart))(ds l:List PDeed):List PDeed:=l.filter fun d=>ge d.it.kind&&C8 day p m ds d
theorem abg(d:PDeed)(ss:List PSpan)(day:Int)(p:au)(m:List (Int×PStart))(hc:kP 57 [.ls (ss.map aU),iV day] (.bool false)):kD 56 [aq d,.ls (ss.map aU),.ptr 1 0 0 0,.ptr 0 0 0 0,.ptr 2 0 0 0] (aw [jv day,iU p,dR,dt m,bp d]) (.tuple []) (aw [jv day,iU p,dR,dt m,bp d]):=by
  exact dL Tryz.func56 fun a=>Kb 5 (dH d.it.for_ (ByteArray.mk #[]).data.toList) (fun b=>Mt b<|Mt b<|Mt b<|Mt b<|MV b<|Kp 2 hc<|K1 1 (.frz 5 []) (xM rt (tM m.length 5<|aP (f:=aC) (fun _=>rfl) m 0) rt rt rt ti)<|Mf a) fun b=>Kh 0 b<|Kh 0 b<|Kh 0 b<|Kh 0 b<|Kw 0 b<|Kb 0 (dH d.it.for_ p) (fun b=>Kt 0 b<|Kt 0 b<|Mp hc<|MV b<|K1 0 (.frz 5 []) (xM rt (tM m.length 5<|aP (f:=aC) (fun _=>rfl) m 0) rt rt rt ti)<|Mf a) fun b=>Mh b<|Mh b<|My b<|K1 0 (.frz 5 []) (xM rt (tM m.length 5<|aP (f:=aC) (fun _=>rfl) m 0) rt rt rt ti)<|Mf a
theorem abf(d:PDeed)(ss:List PSpan)(day:Int)(p:au)(m:List (Int×PStart))(h1:dH d.it.for_ []=false)(h2:dH d.it.for_ p=false):kD 56 [aq d,.ls (ss.map aU),.ptr 1 0 0 0,.ptr 0 0 0 0,.ptr 2 0 0 0] (aw [jv day,iU p,dR,dt m,bp d]) (.tuple []) (aw [jv day,iU p,dR,dt m,bp d]):=by
  exact dL Tryz.func56 fun a=>Kh 5 h1<|Kh 0 h1<|Kh 0 h1<|Kh 0 h1<|Kh 0 h1<|Kw 0 h1<|Kh 0 h2<|Mh h2<|Mh h2<|My h2<|K1 0 (.frz 5 []) (xM rt (tM m.length 5<|aP (f:=aC) (fun _=>rfl) m 0) rt rt rt ti)<|Mf a
theorem abe(d:PDeed)(ss:List PSpan)(day:Int)(p:au)(m:List (Int×PStart))(hc:kP 57 [.ls (ss.map aU),iV day] (.bool true))(h1:dH d.it.for_ []=true):kD 56 [aq d,.ls (ss.map aU),.ptr 1 0 0 0,.ptr 0 0 0 0,.ptr 2 0 0 0] (aw [jv day,iU p,dR,dt m,bp d]) (.tuple []) (aw [jv day,iU p,dz 5 0 1,dt m,bp d,qu 0 [d]]):=by
  exact dL Tryz.func56 fun a=>Kt 5 h1<|Mt h1<|Mt h1<|Mt h1<|Mt h1<|MV h1<|Kp 2 hc<|K1 6 (.ren [0,1,2,3,4,6,5] [3] []) (tN m.length<|aP (f:=aC) (fun _=>rfl) m 0)<|M1 (.frz 6 []) (Bq rt rt (tM m.length 6<|aP (f:=aC) (fun _=>rfl) m 0) rt rt rt ti)<|Mf a
theorem abd(d:PDeed)(ss:List PSpan)(day:Int)(p:au)(m:List (Int×PStart))(hc:kP 57 [.ls (ss.map aU),iV day] (.bool true))(h1:dH d.it.for_ []=false)(h2:dH d.it.for_ p=true):kD 56 [aq d,.ls (ss.map aU),.ptr 1 0 0 0,.ptr 0 0 0 0,.ptr 2 0 0 0] (aw [jv day,iU p,dR,dt m,bp d]) (.tuple []) (aw [jv day,iU p,dz 5 0 1,dt m,bp d,qu 0 [d]]):=by
  exact dL Tryz.func56 fun a=>Kh 5 h1<|Kh 0 h1<|Kh 0 h1<|Kh 0 h1<|Kh 0 h1<|Kw 0 h1<|Kt 0 h2<|Kt 0 h2<|Kt 0 h2<|Mp hc<|MV h2<|K1 5 (.ren [0,1,2,3,4,6,5] [3] []) (tN m.length<|aP (f:=aC) (fun _=>rfl) m 0)<|M1 (.frz 6 []) (Bq rt rt (tM m.length 6<|aP (f:=aC) (fun _=>rfl) m 0) rt rt rt ti)<|Mf a
theorem abc(d:PDeed)(ss:List PSpan)(day:Int)(p:au)(m:List (Int×PStart))(ep n:Nat)(out:List PDeed)(hc:kP 57 [.ls (ss.map aU),iV day] (.bool false)):kD 56 [aq d,.ls (ss.map aU),.ptr 1 0 0 0,.ptr 0 0 0 0,.ptr 2 0 0 0] (aw [jv day,iU p,dz 4 ep n,dt m,qu ep out,bp d]) (.tuple []) (aw [jv day,iU p,dz 4 ep n,dt m,qu ep out,bp d]):=by
  exact dL Tryz.func56 fun a=>Kb 5 (dH d.it.for_ (ByteArray.mk #[]).data.toList) (fun b=>Mt b<|Mt b<|Mt b<|Mt b<|MV b<|Kp 2 hc<|K1 1 (.frz 6 []) (Bq rt (tR 28 true ep 6<|aW x8 out) (tM m.length 6<|aP (f:=aC) (fun _=>rfl) m 0) rt rt rt ti)<|Mf a) fun b=>Kh 0 b<|Kh 0 b<|Kh 0 b<|Kh 0 b<|Kw 0 b<|Kb 0 (dH d.it.for_ p) (fun b=>Kt 0 b<|Kt 0 b<|Mp hc<|MV b<|K1 0 (.frz 6 []) (Bq rt (tR 28 true ep 6<|aW x8 out) (tM m.length 6<|aP (f:=aC) (fun _=>rfl) m 0) rt rt rt ti)<|Mf a) fun b=>Mh b<|Mh b<|My b<|K1 0 (.frz 6 []) (Bq rt (tR 28 true ep 6<|aW x8 out) (tM m.length 6<|aP (f:=aC) (fun _=>rfl) m 0) rt rt rt ti)<|Mf a
theorem abb(d:PDeed)(ss:List PSpan)(day:Int)(p:au)(m:List (Int×PStart))(ep n:Nat)(out:List PDeed)(h1:dH d.it.for_ []=false)(h2:dH d.it.for_ p=false):kD 56 [aq d,.ls (ss.map aU),.ptr 1 0 0 0,.ptr 0 0 0 0,.ptr 2 0 0 0] (aw [jv day,iU p,dz 4 ep n,dt m,qu ep out,bp d]) (.tuple []) (aw [jv day,iU p,dz 4 ep n,dt m,qu ep out,bp d]):=by
  exact dL Tryz.func56 fun a=>Kh 5 h1<|Kh 0 h1<|Kh 0 h1<|Kh 0 h1<|Kh 0 h1<|Kw 0 h1<|Kh 0 h2<|Mh h2<|Mh h2<|My h2<|K1 0 (.frz 6 []) (Bq rt (tR 28 true ep 6<|aW x8 out) (tM m.length 6<|aP (f:=aC) (fun _=>rfl) m 0) rt rt rt ti)<|Mf a
theorem aba(d:PDeed)(ss:List PSpan)(day:Int)(p:au)(m:List (Int×PStart))(ep n:Nat)(out:List PDeed)(hn:n=out.length)(hn2:n<2^20)(hc:kP 57 [.ls (ss.map aU),iV day] (.bool true))(h1:dH d.it.for_ []=true):kD 56 [aq d,.ls (ss.map aU),.ptr 1 0 0 0,.ptr 0 0 0 0,.ptr 2 0 0 0] (aw [jv day,iU p,dz 4 ep n,dt m,qu ep out,bp d]) (.tuple []) (aw [jv day,iU p,dz 4 (ep+1) (n+1),dt m,qu (ep+1) (out++[d]),bp d]):=by
  exact dL Tryz.func56 fun a=>Kt 5 h1<|Mt h1<|Mt h1<|Mt h1<|Mt h1<|MV h1<|Kp 2 hc<|K1 4 .app (cF (aV ep) (by(rw[lM];exact hn):n=(out.map aq).length) (by exact dC (m:=2^21) (by omega) (by decide) (by decide):small (n+1) 392=true))<|M1 (.obj 4<|aZ 28 true (ep+1)<|(out++[d]).map aq) (congrArg (aZ 28 true<|ep+1)<|cT (f:=aq) (l:=out) (ws:=[d]))<|K1 0 (.frz 6 []) (Bq rt (tR 28 true (ep+1) 6<|aW x8<|out++[d]) (tM m.length 6<|aP (f:=aC) (fun _=>rfl) m 0) rt rt rt ti)<|Mf a
theorem aa9(d:PDeed)(ss:List PSpan)(day:Int)(p:au)(m:List (Int×PStart))(ep n:Nat)(out:List PDeed)(hn:n=out.length)(hn2:n<2^20)(hc:kP 57 [.ls (ss.map aU),iV day] (.bool true))(h1:dH d.it.for_ []=false)(h2:dH d.it.for_ p=true):kD 56 [aq d,.ls (ss.map aU),.ptr 1 0 0 0,.ptr 0 0 0 0,.ptr 2 0 0 0] (aw [jv day,iU p,dz 4 ep n,dt m,qu ep out,bp d]) (.tuple []) (aw [jv day,iU p,dz 4 (ep+1) (n+1),dt m,qu (ep+1) (out++[d]),bp d]):=by
  exact dL Tryz.func56 fun a=>Kh 5 h1<|Kh 0 h1<|Kh 0 h1<|Kh 0 h1<|Kh 0 h1<|Kw 0 h1<|Kt 0 h2<|Kt 0 h2<|Kt 0 h2<|Mp hc<|MV h2<|K1 3 .app (cF (aV ep) (by(rw[lM];exact hn):n=(out.map aq).length) (by exact dC (m:=2^21) (by omega) (by decide) (by decide):small (n+1) 392=true))<|M1 (.obj 4<|aZ 28 true (ep+1)<|(out++[d]).map aq) (congrArg (aZ 28 true<|ep+1)<|cT (f:=aq) (l:=out) (ws:=[d]))<|K1 0 (.frz 6 []) (Bq rt (tR 28 true (ep+1) 6<|aW x8<|out++[d]) (tM m.length 6<|aP (f:=aC) (fun _=>rfl) m 0) rt rt rt ti)<|Mf a
theorem Ws{day:Int}{p:au}{m:List (Int×PStart)}{ds:List PDeed}{d:PDeed}(h:C8 day p m ds d=false):kP 57 [.ls ((eQ (dh m d.act) d ds).map aU),iV day] (.bool false)\/(dH d.it.for_ []=false/\dH d.it.for_ p=false):=by
  unfold C8 Yk at h
  have hz:=nH (dh m d.act) d ds day
  cases q:jU (eQ (dh m d.act) d ds) day with
  |false=>rw[q]at hz;exact .inl hz
  |true=>rw[q,Bool.and_true,uc]at h;exact .inr h
theorem QH{day:Int}{p:au}{m:List (Int×PStart)}{ds:List PDeed}{d:PDeed}(h:C8 day p m ds d=true):kP 57 [.ls ((eQ (dh m d.act) d ds).map aU),iV day] (.bool true)/\(dH d.it.for_ []=true\/(dH d.it.for_ []=false/\dH d.it.for_ p=true)):=by
  unfold C8 Yk at h
  obtain⟨h1,h2⟩:=mQ.1 h
  have hz:=nH (dh m d.act) d ds day
  rw[h2]at hz
  refine⟨hz,?_⟩
  cases q:dH d.it.for_ []with
  |true=>exact .inl rfl
  |false=>rw[q,Bool.false_or]at h1;exact .inr ⟨rfl,h1⟩
theorem ZB(day:Int)(p:au)(m:List (Int×PStart))(ds:List PDeed)(d:PDeed)(hb:C8 day p m ds d=false):kD 56 [aq d,.ls ((eQ (dh m d.act) d ds).map aU),.ptr 1 0 0 0,.ptr 0 0 0 0,.ptr 2 0 0 0] (aw [jv day,iU p,dR,dt m,bp d]) (.tuple []) (aw [jv day,iU p,dR,dt m,bp d]):=by
  rcases Ws hb with h|⟨h1,h2⟩
  · exact abg d _ day p m h
  · exact abf d _ day p m h1 h2
theorem abl(day:Int)(p:au)(m:List (Int×PStart))(ds:List PDeed)(d:PDeed)(hb:By (C8 day p m ds d) false):kD 56 [aq d,.ls ((eQ (dh m d.act) d ds).map aU),.ptr 1 0 0 0,.ptr 0 0 0 0,.ptr 2 0 0 0] (aw [jv day,iU p,dR,dt m,bp d]) (.tuple []) (aw [jv day,iU p,dR,dt m,bp d]):=ZB day p m ds d hb
theorem abk(day:Int)(p:au)(m:List (Int×PStart))(ds:List PDeed)(d:PDeed)(hb:By (C8 day p m ds d) true):kD 56 [aq d,.ls ((eQ (dh m d.act) d ds).map aU),.ptr 1 0 0 0,.ptr 0 0 0 0,.ptr 2 0 0 0] (aw [jv day,iU p,dR,dt m,bp d]) (.tuple []) (aw [jv day,iU p,dz 5 0 1,dt m,bp d,qu 0 [d]]):=by
  obtain⟨h,h1|⟨h1,h2⟩⟩:=QH hb
  · exact abe d _ day p m h h1
  · exact abd d _ day p m h h1 h2
theorem abj(day:Int)(p:au)(m:List (Int×PStart))(ds:List PDeed)(d:PDeed)(ep n:Nat)(out:List PDeed)(hb:By (C8 day p m ds d) false):kD 56 [aq d,.ls ((eQ (dh m d.act) d ds).map aU),.ptr 1 0 0 0,.ptr 0 0 0 0,.ptr 2 0 0 0] (aw [jv day,iU p,dz 4 ep n,dt m,qu ep out,bp d]) (.tuple []) (aw [jv day,iU p,dz 4 ep n,dt m,qu ep out,bp d]):=by
  rcases Ws hb with h|⟨h1,h2⟩
  · exact abc d _ day p m ep n out h
  · exact abb d _ day p m ep n out h1 h2
theorem abh(day:Int)(p:au)(m:List (Int×PStart))(ds:List PDeed)(d:PDeed)(ep n:Nat)(out:List PDeed)(hb:By (C8 day p m ds d) true)(hn:n=out.length)(hn2:n<2^20):kD 56 [aq d,.ls ((eQ (dh m d.act) d ds).map aU),.ptr 1 0 0 0,.ptr 0 0 0 0,.ptr 2 0 0 0] (aw [jv day,iU p,dz 4 ep n,dt m,qu ep out,bp d]) (.tuple []) (aw [jv day,iU p,dz 4 (ep+1) (n+1),dt m,qu (ep+1) (out++[d]),bp d]):=by
  obtain⟨h,h1|⟨h1,h2⟩⟩:=QH hb
  · exact aba d _ day p m ep n out hn hn2 h h1
  · exact aa9 d _ day p m ep n out hn hn2 h h1 h2
theorem QM{day:Int}{p:au}{m:List (Int×PStart)}{ds r:List PDeed}{d:PDeed}(h:ge d.it.kind=false):s5 day p m ds (d::r)=s5 day p m ds r:=by simp only[s5,List.filter_cons,h,Bool.false_and];rfl
theorem QL{day:Int}{p:au}{m:List (Int×PStart)}{ds r:List PDeed}{d:PDeed}(h:C8 day p m ds d=false):s5 day p m ds (d::r)=s5 day p m ds r:=by simp only[s5,List.filter_cons,h,zq];rfl
theorem QI{day:Int}{p:au}{m:List (Int×PStart)}{ds r:List PDeed}{d:PDeed}(h:ge d.it.kind=true)(h2:C8 day p m ds d=true):s5 day p m ds (d::r)=d::s5 day p m ds r:=by simp only[s5,List.filter_cons,h,h2];rfl
structure OnA(day:Int)(p:au)(m:List (Int×PStart))(ds r:List PDeed):Prop where
  f:s5 day p m ds ds=s5 day p m ds r
structure OnR(day:Int)(p:au)(m:List (Int×PStart))(ds r:List PDeed)(ep n:Nat)(out:List PDeed):Prop where
  len:n=out.length
  ep:ep+1=out.length
  small:out.length+r.length<=ds.length
  f:s5 day p m ds ds=out++s5 day p m ds r
theorem OnA.no{day:Int}{p:au}{m:List (Int×PStart)}{ds r:List PDeed}{d:PDeed}(h:OnA day p m ds (d::r))(ha:ge d.it.kind=false):OnA day p m ds r:=⟨by rw[h.f,QM ha]⟩
theorem OnA.nil{day:Int}{p:au}{m:List (Int×PStart)}{ds r:List PDeed}{d:PDeed}(h:OnA day p m ds (d::r))(hb:C8 day p m ds d=false):OnA day p m ds r:=⟨by rw[h.f,QL hb]⟩
theorem OnA.new{day:Int}{p:au}{m:List (Int×PStart)}{ds r:List PDeed}{d:PDeed}{n:Nat}(h:OnA day p m ds (d::r))(hl:(d::r).length<=ds.length)(ha:ge d.it.kind=true)(hb:C8 day p m ds d=true)(hn:n=1):OnR day p m ds r 0 n [d]:=⟨hn,rfl,by simp only[lC,lN]at *;omega,by rw[h.f,QI ha hb];rfl⟩
theorem OnR.no{day:Int}{p:au}{m:List (Int×PStart)}{ds r:List PDeed}{d:PDeed}{ep n:Nat}{out:List PDeed}(h:OnR day p m ds (d::r) ep n out)(ha:ge d.it.kind=false):OnR day p m ds r ep n out:=⟨h.len,h.ep,by have:=h.small;simp only[lC]at this;omega,by rw[h.f,QM ha]⟩
theorem OnR.nil{day:Int}{p:au}{m:List (Int×PStart)}{ds r:List PDeed}{d:PDeed}{ep n:Nat}{out:List PDeed}(h:OnR day p m ds (d::r) ep n out)(hb:C8 day p m ds d=false):OnR day p m ds r ep n out:=⟨h.len,h.ep,by have:=h.small;simp only[lC]at this;omega,by rw[h.f,QL hb]⟩
theorem OnR.new{day:Int}{p:au}{m:List (Int×PStart)}{ds r:List PDeed}{d:PDeed}{ep n k:Nat}{out:List PDeed}(h:OnR day p m ds (d::r) ep n out)(ha:ge d.it.kind=true)(hb:C8 day p m ds d=true)(hk:k=n+1):OnR day p m ds r (ep+1) k (out++[d]):=by
  have:=h.len;have:=h.ep;have:=h.small
  refine⟨?_,?_,?_,by rw[h.f,QI ha hb,qP];rfl⟩<;>simp only[lA,lC,lN]at * <;>omega
theorem OnR.done{day:Int}{p:au}{m:List (Int×PStart)}{ds:List PDeed}{ep n:Nat}{out:List PDeed}(h:OnR day p m ds [] ep n out):ep=(s5 day p m ds ds).length -1/\n=(s5 day p m ds ds).length/\out=s5 day p m ds ds:=by
  have e:s5 day p m ds ds=out:=by rw[h.f];exact eF _
  have:=h.len;have:=h.ep
  rw[e];exact⟨by omega,by omega,rfl⟩
theorem Xd{α:Type}{l r:List α}{j:Nat}{a:α}(h:l.drop j=a::r):(a::r).length<=l.length:=by rw[<-h,uy];omega
theorem Wu{day:Int}{p:au}{m:List (Int×PStart)}{ds r:List PDeed}{d:PDeed}(h:s5 day p m ds (d::r)=[])(ha:ge d.it.kind=true):C8 day p m ds d=false:=by
  cases q:C8 day p m ds d with
  |false=>rfl
  |true=>rw[QI ha q]at h;cases h
theorem YC(gs:List PGaz)(L:List PAct)(ds:List PDeed)(day:Int)(p:au)(hL:L.length<10000)(hd:ds.length<100000)(ha:kP 77 [.ls (gs.map aI)] (.ls (L.map ay)))(hi:kP 94 [.ls (gs.map aI)] (.ls (ds.map aq)))(hE:s5 day p (yt L []) ds ds=[]):
    kD 55 [.ls (gs.map aI),.func (.func 56) [] [.ptr 1 0 0 0,.ptr 0 0 0 0,.ptr 2 0 0 0]] (aw [jv day,iU p,dR]) (.tuple []) (aw [jv day,iU p,dR]):=by
  have hlk:=As
  have hup:=CE
  let q1:=[iV day];exact dL Tryz.func55 fun a=>Kp 2 ha<|Kl 0 13 (ln ay L)<|Mg 0<|JY ay L ([]:List (Int×PStart)) [0,1,4,12,13,14] (fun a _ b=>([aJ<|gs.map aI,bx (bz 56) [] [ah 1 0 0 0,ah 0 0 0 0,ah 2 0 0 0],AV.map 3,aJ<|L.map ay,nV L.length,nV a],[aZ 1 false 0 [iV day],aZ 1 false 0 [ax p],aZ 1 false 0 [ab],AObj.map (cj aC b 0) b.length])) (fun a b=>yt L []=yt a b) (by rfl) (fun _ _ b _ _ _ c d=>Kh 0 c<|Kp 0 hi<|Kl 2 27 (ln aq ds)<|Mg 0<|Pi (0:Nat) ds () [1,4,7,26,27,28] (fun a _ _=>([bx (bz 56) [] [ah 1 0 0 0,ah 0 0 0 0,ah 2 0 0 0],AV.map 3,aJ<|ds.map aq,aJ<|ds.map aq,nV ds.length,nV a],[aZ 1 false 0 [iV day],aZ 1 false 0 [ax p],aZ 1 false 0 [ab],AObj.map (cj aC b 0) b.length])) (fun a c _=>(ds).drop a=c/\s5 day p b ds c=[]) (fun _ a _=>a.length) (et rfl<|by(rw[<-show yt L []=b from d];exact hE)) fun c d e f g=>Mc d (fun c=>have d:=eu f.1 c;have:=gJ (J:=fun a _=>s5 day p b ds a=[]) (a:=e) c f.2;Kh 0 d<|M1 (.frz 3 []) (kg rt rt rt ti)<|Mf a) fun a d h=>let i:=[ak (dLx a)];have j:=fX f.1 h;have:=ap j;have k:=ei (enc:=aq) f.1 h;have e:=cw (J:=fun a _=>s5 day p b ds a=[]) (a:=e) h f.2;Kt 0 j<|Mx k<|Kp 5 (nT a.it.kind)<|Mb (ge a.it.kind) (fun _=>K1 4 (.look<|ak [iV (dh b a.act).kind,iV (dh b a.act).day,ax (dh b a.act).event]) (hlk b a.act)<|Kp 1 (nG (dh b a.act) a ds<|by(omega))<|M3 (.efx true (bP [])<|aw [aZ 1 false 0 q1,aZ 1 false 0 [ax p],aZ 1 false 0 [ab],AObj.map (cj aC b 0) b.length,aZ 28 false 0 i]) (xM rt (tM b.length 5<|aP (f:=aC) (fun _=>rfl) b 0) rt rt rt ti) (xM (aV<|some<|aZ 28 false 0 i) (aV<|some<|AObj.map (cj aC b 0) b.length) (aV<|some<|aZ 1 false 0 [ab]) (aV<|some<|aZ 1 false 0 [ax p]) (aV<|some<|aZ 1 false 0 q1) ti) (ZB day p b ds a<|by exact Wu e (by assumption))<|Kl 0 46 (dq c)<|K1 0 (.frz 4 [1,4,7,26,27,28]) (JV (tM b.length 4<|aP (f:=aC) (fun _=>rfl) b 0) rt rt rt ti)<|Mf<|g (c+1) d () (et (bf f.1 h)<|by(have z:=e;rw[QL (Wu z (by assumption))]at z;exact z))<|ed h) fun _=>Kl 0 46 (dq c)<|K1 0 (.frz 4 [1,4,7,26,27,28]) (JV (tM b.length 4<|aP (f:=aC) (fun _=>rfl) b 0) rt rt rt ti)<|Mf<|g (c+1) d () (et (bf f.1 h)<|by(have z:=e;rw[QM (by assumption)]at z;exact z))<|ed h) fun a _ b _ _ c d e _ f _ g h=>Kt 0 f<|Mx g<|K1 7 (.upd (cj aC (lg c.number c.start b) 0) (lg c.number c.start b).length) (hup b c)<|Kl 0 23 (dq a)<|K1 0 (.frz 4 [0,1,4,12,13,14]) (JV (tM (lg c.number c.start b).length 4<|aP (f:=aC) (fun _=>rfl) (lg c.number c.start b) 0) rt rt rt ti)<|Mf<|e (lg c.number c.start b)<|by exact h
def IG(gs:List PGaz)(L:List PAct)(day:Int)(p:au)(x0:Nat×List PAct×List (Int×PStart)):Prop:=(L).drop x0.1=x0.2.1/\yt L []=yt x0.2.1 x0.2.2
noncomputable def yJ(gs:List PGaz)(L:List PAct)(day:Int)(p:au)(x0:Nat×List PAct×List (Int×PStart)):List AV×List AObj:=([AV.ls (gs.map aI),AV.func (Fn.func 56) [] [AV.ptr 1 0 0 0,AV.ptr 0 0 0 0,AV.ptr 2 0 0 0],AV.map 3,AV.ls (L.map ay),nV L.length,nV x0.1],[AObj.row 1 false 0 [iV day],AObj.row 1 false 0 [AV.str p],AObj.row 1 false 0 [AV.nils],AObj.map (cj aC x0.2.2 0) x0.2.2.length])
def IF(ds:List PDeed)(day:Int)(p:au)(x0:Nat×List PAct×List (Int×PStart))(x1:Nat×List PDeed×Unit):Prop:=(ds).drop x1.1=x1.2.1/\OnA day p x0.2.2 ds x1.2.1
noncomputable def yW(ds:List PDeed)(day:Int)(p:au)(x0:Nat×List PAct×List (Int×PStart))(x1:Nat×List PDeed×Unit):List AV×List AObj:=([AV.func (Fn.func 56) [] [AV.ptr 1 0 0 0,AV.ptr 0 0 0 0,AV.ptr 2 0 0 0],AV.map 3,AV.ls (ds.map aq),AV.ls (ds.map aq),nV ds.length,nV x1.1],[AObj.row 1 false 0 [iV day],AObj.row 1 false 0 [AV.str p],AObj.row 1 false 0 [AV.nils],AObj.map (cj aC x0.2.2 0) x0.2.2.length])
def IE(ds:List PDeed)(day:Int)(p:au)(x0:Nat×List PAct×List (Int×PStart))(x1:Nat×List PDeed×Nat×Nat×List PDeed):Prop:=(ds).drop x1.1=x1.2.1/\OnR day p x0.2.2 ds x1.2.1 x1.2.2.1 x1.2.2.2.1 x1.2.2.2.2
noncomputable def ID(ds:List PDeed)(day:Int)(p:au)(x0:Nat×List PAct×List (Int×PStart))(x1:Nat×List PDeed×Nat×Nat×List PDeed):List AV×List AObj:=([AV.func (Fn.func 56) [] [AV.ptr 1 0 0 0,AV.ptr 0 0 0 0,AV.ptr 2 0 0 0],AV.map 3,AV.ls (ds.map aq),AV.ls (ds.map aq),nV ds.length,nV x1.1],[AObj.row 1 false 0 [iV day],AObj.row 1 false 0 [AV.str p],AObj.row 1 false 0 [AV.slice 4 x1.2.2.1 0 x1.2.2.2.1 none],AObj.map (cj aC x0.2.2 0) x0.2.2.length,AObj.row 28 true x1.2.2.1 (x1.2.2.2.2.map aq)])
theorem YB(gs:List PGaz)(L:List PAct)(ds:List PDeed)(day:Int)(p:au)(hL:L.length<10000)(hd:ds.length<100000)(ha:kP 77 [.ls (gs.map aI)] (.ls (L.map ay)))(hi:kP 94 [.ls (gs.map aI)] (.ls (ds.map aq)))(hE:s5 day p (yt L []) ds ds≠[]):
    kD 55 [.ls (gs.map aI),.func (.func 56) [] [.ptr 1 0 0 0,.ptr 0 0 0 0,.ptr 2 0 0 0]] (aw [jv day,iU p,dR]) (.tuple []) (aw [jv day,iU p,dz 3 ((s5 day p (yt L []) ds ds).length -1) (s5 day p (yt L []) ds ds).length,qu ((s5 day p (yt L []) ds ds).length -1) (s5 day p (yt L []) ds ds)]):=by
  have hlk:=As
  have hup:=CE
  let q5:=[iV day];let q8:=bP [];let q10:=some (aZ 1 false 0 [ax p]);let q11:=some (aZ 1 false 0 q5);exact GJ Tryz.func55<|Kp 2 ha<|Kl 0 13 (ln ay L)<|Mg 0<|ML (Nat×List PAct×List (Int×PStart)) [0,1,4,12,13,14] (yJ gs L day p) (IG gs L day p) (fun a=>a.2.1.length) (0,L,[]) (aV<|yJ gs L day p (0,L,[])) (et (rfl:List.drop 0 (L)=L) (by rfl:(yt L []=yt L []))) fun a b c=>let d:=some<|AObj.map (cj aC a.2.2 0) a.2.2.length;Mi (fun a b=>yt L []=yt a b) ay b (fun _ b c=>Kh 0 b<|Kp 0 hi<|Kl 2 27 (ln aq ds)<|Mg 0<|MM (Nat×List PDeed×Unit) (Nat×List PDeed×Nat×Nat×List PDeed) [1,4,7,26,27,28] (yW ds day p a) (ID ds day p a) (IF ds day p a) (IE ds day p a) (fun a=>a.2.1.length) (fun a=>a.2.1.length) (.inl (0,ds,())) (aV<|yW ds day p a (0,ds,())) (et (rfl:List.drop 0 (ds)=ds) (by(exact⟨rfl⟩):(OnA day p a.2.2 ds ds))) (fun b e f=>Mc b.2.1 (fun d=>have f:=eu e.1 d;have b:=gJ (J:=fun b _=>OnA day p a.2.2 ds b) (a:=b.2.2) d e.2;Kh 0 f<|Mw .abs (by exact hE (by rw[show yt L []=a.2.2 from c];exact b.f):False)) fun c g h=>let i:=[ak (dLx c)];let j:=ak [iV (dh a.2.2 c.act).kind,iV (dh a.2.2 c.act).day,ax (dh a.2.2 c.act).event];have k:=fX e.1 h;have:=ap k;have l:=ei (enc:=aq) e.1 h;have m:=cw (J:=fun b _=>OnA day p a.2.2 ds b) (a:=b.2.2) h e.2;Kt 0 k<|Mx l<|Kp 5 (nT c.it.kind)<|Mb (ge c.it.kind) (fun _=>Ms (C8 day p a.2.2 ds c) (fun d=>K1 4 (.look j) (hlk a.2.2 c.act)<|Kp 1 (nG (dh a.2.2 c.act) c ds<|by(omega))<|M3 (.efx false q8<|aw [aZ 1 false 0 q5,aZ 1 false 0 [ax p],aZ 1 false 0 [bQ 5 0 0 1 none],AObj.map (cj aC a.2.2 0) a.2.2.length,aZ 28 false 0 i,aZ 28 true 0 i]) (xM rt (tM a.2.2.length 5<|aP (f:=aC) (fun _=>rfl) a.2.2 0) rt rt rt ti) ti (abk day p a.2.2 ds c d)<|Kl 0 46 (dq b.1)<|K1 0 (.ren [0,1,2,3,5,4] [3] [1,4,7,26,27,28]) (tN a.2.2.length<|aP (f:=aC) (fun _=>rfl) a.2.2 0)<|M1 (.frz 5 [1,4,7,26,27,28]) (xM rt (tM a.2.2.length 5<|aP (f:=aC) (fun _=>rfl) a.2.2 0) rt rt rt ti)<|Mf<|f (.inr (b.1+1,g,(0,1,[c]))) (et (bf e.1 h) (by exact m.new (Xd (e.1.trans h)) (by assumption) (by assumption) rfl:(OnR day p a.2.2 ds g (0:Nat) (1:Nat) [c])))<|ed h) fun k=>K1 4 (.look j) (hlk a.2.2 c.act)<|Kp 1 (nG (dh a.2.2 c.act) c ds<|by(omega))<|M3 (.efx true q8<|aw [aZ 1 false 0 q5,aZ 1 false 0 [ax p],aZ 1 false 0 [ab],AObj.map (cj aC a.2.2 0) a.2.2.length,aZ 28 false 0 i]) (xM rt (tM a.2.2.length 5<|aP (f:=aC) (fun _=>rfl) a.2.2 0) rt rt rt ti) (xM (aV<|some<|aZ 28 false 0 i) (aV d) (aV<|some<|aZ 1 false 0 [ab]) (aV q10) (aV q11) ti) (abl day p a.2.2 ds c k)<|Kl 0 46 (dq b.1)<|K1 0 (.frz 4 [1,4,7,26,27,28]) (JV (tM a.2.2.length 4<|aP (f:=aC) (fun _=>rfl) a.2.2 0) rt rt rt ti)<|Mf<|f (.inl (b.1+1,g,())) (et (bf e.1 h) (by exact m.nil (by assumption):(OnA day p a.2.2 ds g)))<|ed h) fun _=>Kl 0 46 (dq b.1)<|K1 0 (.frz 4 [1,4,7,26,27,28]) (JV (tM a.2.2.length 4<|aP (f:=aC) (fun _=>rfl) a.2.2 0) rt rt rt ti)<|Mf<|f (.inl (b.1+1,g,())) (et (bf e.1 h) (by exact m.no (by assumption):(OnA day p a.2.2 ds g)))<|ed h) fun b e f=>let g:=[bQ 4 b.2.2.1 0 b.2.2.2.1 none];let h:=List.map aq b.2.2.2.2;Mc b.2.1 (fun d=>have f:=eu e.1 d;have d:=gJ (J:=fun b c=>OnR day p a.2.2 ds b c.1 c.2.1 c.2.2) (a:=b.2.2) d e.2;Kh 0 f<|M2 (.ren [0,1,2,4,3] [4,3] []) (tS 28 true b.2.2.1<|aW x8 b.2.2.2.2) (tN a.2.2.length<|aP (f:=aC) (fun _=>rfl) a.2.2 0)<|M1 (.frz 4 []) (JV (tR 28 true b.2.2.1 4<|aW x8 b.2.2.2.2) rt rt rt ti)<|Mf<|et (aV q8) (by(have q:=d.done;rw[show yt L []=a.2.2 from c,q.1,q.2.1,q.2.2]):(aw [AObj.row 1 false 0 [iV day],AObj.row 1 false 0 [AV.str p],AObj.row 1 false 0 [AV.slice 3 b.2.2.1 0 b.2.2.2.1 none],AObj.row 28 true b.2.2.1 (b.2.2.2.2.map aq)])=(aw [jv day,iU p,dz 3 ((s5 day p (yt L []) ds ds).length -1) (s5 day p (yt L []) ds ds).length,qu ((s5 day p (yt L []) ds ds).length -1) (s5 day p (yt L []) ds ds)]))) fun c i j=>let k:=[ak (dLx c)];let l:=ak [iV (dh a.2.2 c.act).kind,iV (dh a.2.2 c.act).day,ax (dh a.2.2 c.act).event];have m:=fX e.1 j;have:=ap m;have n:=ei (enc:=aq) e.1 j;have o:=cw (J:=fun b c=>OnR day p a.2.2 ds b c.1 c.2.1 c.2.2) (a:=b.2.2) j e.2;Kt 0 m<|Mx n<|Kp 5 (nT c.it.kind)<|Mb (ge c.it.kind) (fun _=>Ms (C8 day p a.2.2 ds c) (fun d=>K1 4 (.look l) (hlk a.2.2 c.act)<|Kp 1 (nG (dh a.2.2 c.act) c ds<|by(omega))<|M3 (.efx false q8<|aw [aZ 1 false 0 q5,aZ 1 false 0 [ax p],aZ 1 false 0 [bQ 4 (b.2.2.1+1) 0 (b.2.2.2.1+1) none],AObj.map (cj aC a.2.2 0) a.2.2.length,aZ 28 true (b.2.2.1+1)<|(b.2.2.2.2++[c]).map aq,aZ 28 false 0 k]) (Bq rt (tR 28 true b.2.2.1 6<|aW x8 b.2.2.2.2) (tM a.2.2.length 6<|aP (f:=aC) (fun _=>rfl) a.2.2 0) rt rt rt ti) ti (abh day p a.2.2 ds c b.2.2.1 b.2.2.2.1 b.2.2.2.2 d (by exact o.len)<|by(have z:=o.small;have z2:=o.len;simp only[lC]at z;omega))<|Kl 0 46 (dq b.1)<|K1 0 (.frz 5 [1,4,7,26,27,28]) (xM (tR 28 true (b.2.2.1+1) 5<|aW x8<|b.2.2.2.2++[c]) (tM a.2.2.length 5<|aP (f:=aC) (fun _=>rfl) a.2.2 0) rt rt rt ti)<|Mf<|f (.inr (b.1+1,i,(b.2.2.1+1,b.2.2.2.1+1,b.2.2.2.2++[c]))) (et (bf e.1 j) (by exact o.new (by assumption) (by assumption) rfl:(OnR day p a.2.2 ds i (b.2.2.1+1) (b.2.2.2.1+1) (b.2.2.2.2++[c]))))<|ed j) fun m=>K1 4 (.look l) (hlk a.2.2 c.act)<|Kp 1 (nG (dh a.2.2 c.act) c ds<|by(omega))<|M3 (.efx true q8<|aw [aZ 1 false 0 q5,aZ 1 false 0 [ax p],aZ 1 false 0 g,AObj.map (cj aC a.2.2 0) a.2.2.length,aZ 28 true b.2.2.1 h,aZ 28 false 0 k]) (Bq rt (tR 28 true b.2.2.1 6<|aW x8 b.2.2.2.2) (tM a.2.2.length 6<|aP (f:=aC) (fun _=>rfl) a.2.2 0) rt rt rt ti) (Bq (aV<|some<|aZ 28 false 0 k) (aV<|some<|aZ 28 true b.2.2.1 h) (aV d) (aV<|some<|aZ 1 false 0 g) (aV q10) (aV q11) ti) (abj day p a.2.2 ds c b.2.2.1 b.2.2.2.1 b.2.2.2.2 m)<|Kl 0 46 (dq b.1)<|K1 0 (.frz 5 [1,4,7,26,27,28]) (xM (tR 28 true b.2.2.1 5<|aW x8 b.2.2.2.2) (tM a.2.2.length 5<|aP (f:=aC) (fun _=>rfl) a.2.2 0) rt rt rt ti)<|Mf<|f (.inr (b.1+1,i,(b.2.2.1,b.2.2.2.1,b.2.2.2.2))) (et (bf e.1 j) (by exact o.nil (by assumption):(OnR day p a.2.2 ds i b.2.2.1 b.2.2.2.1 b.2.2.2.2)))<|ed j) fun _=>Kl 0 46 (dq b.1)<|K1 0 (.frz 5 [1,4,7,26,27,28]) (xM (tR 28 true b.2.2.1 5<|aW x8 b.2.2.2.2) (tM a.2.2.length 5<|aP (f:=aC) (fun _=>rfl) a.2.2 0) rt rt rt ti)<|Mf<|f (.inr (b.1+1,i,(b.2.2.1,b.2.2.2.1,b.2.2.2.2))) (et (bf e.1 j) (by exact o.no (by assumption):(OnR day p a.2.2 ds i b.2.2.1 b.2.2.2.1 b.2.2.2.2)))<|ed j) fun d e f g _ h i=>Kt 0 g<|Mx h<|K1 7 (.upd (cj aC (lg d.number d.start a.2.2) 0) (lg d.number d.start a.2.2).length) (hup a.2.2 d)<|Kl 0 23 (dq a.1)<|K1 0 (.frz 4 [0,1,4,12,13,14]) (JV (tM (lg d.number d.start a.2.2).length 4<|aP (f:=aC) (fun _=>rfl) (lg d.number d.start a.2.2) 0) rt rt rt ti)<|Mf<|c (a.1+1,e,lg d.number d.start a.2.2) (et (bf b.1 f) (by exact i:(yt L []=yt e (lg d.number d.start a.2.2))))<|ed f
noncomputable def onL(day:Int)(p:au)(L:List PAct)(ds:List PDeed):List PDeed:=s5 day p (yt L []) ds ds
theorem Zu(gs:List PGaz)(day:Int)(p:au)(hc:kD 55 [.ls (gs.map aI),.func (.func 56) [] [.ptr 1 0 0 0,.ptr 0 0 0 0,.ptr 2 0 0 0]] (aw [jv day,iU p,dR]) (.tuple []) (aw [jv day,iU p,dR])):kP 20 [iV day,.str p,.ls (gs.map aI)] (.ls (([]:List PDeed).map aq)):=by
  exact b6 Tryz.func20<|Ke 5 hc<|Kf 1 bO
theorem Zt(gs:List PGaz)(day:Int)(p:au)(X:List PDeed)(k:Nat)(hz:0<X.length)(hb:X.length<2^40)(hc:kD 55 [.ls (gs.map aI),.func (.func 56) [] [.ptr 1 0 0 0,.ptr 0 0 0 0,.ptr 2 0 0 0]] (aw [jv day,iU p,dR]) (.tuple []) (aw [jv day,iU p,dz 3 k X.length,qu k X])):kP 20 [iV day,.str p,.ls (gs.map aI)] (.ls (X.map aq)):=by
  let q:=List.map aq X;exact b6 Tryz.func20<|Ke 5 hc<|Mg 1<|M2 (.fsl 0 [] 6 q) ti (cF (aV k) (tA aq X X.length rfl)<|aW x8 X)<|Ml 6 (fc q false<|aW x8 X)<|Mf<|bo<|aJ q
theorem ZA(gs:List PGaz)(L:List PAct)(ds:List PDeed)(day:Int)(p:au)(hL:L.length<10000)(hd:ds.length<100000)(ha:kP 77 [.ls (gs.map aI)] (.ls (L.map ay)))(hi:kP 94 [.ls (gs.map aI)] (.ls (ds.map aq))):kP 20 [iV day,.str p,.ls (gs.map aI)] (.ls ((onL day p L ds).map aq)):=by
  by_cases hE:onL day p L ds=[]
  · rw[hE];exact Zu gs day p (YC gs L ds day p hL hd ha hi hE)
  · have hl:(onL day p L ds).length<=ds.length:=List.length_filter_le ..
    exact Zt gs day p _ _ (qN.2 hE) (by omega) (YB gs L ds day p hL hd ha hi hE)
def jW:TUnit:=⟨0,0,0,0,[],[],[],[]⟩
theorem og:OkB jW:=⟨by decide,by decide,fun x hx=>by
  have e:x=jW:=by simpa[jW,bv,dD]using hx
  subst e;exact⟨b8 _,b8 _⟩⟩
theorem YT(X:List PDeed)(hl:X.length<2^30)(ho:∀d,d∈X->qe d.it):kP 65 [zU,.ls (X.map aq)] (.tuple [eU (cW jW X),.ls ((fR jW X).map jQ)]):=
  (Tw jW X og hl ho).args (.cons (sr _ _ (by kernel_rfl)).1 (.cons (Le.refl _) .nil))
theorem SH(X:List PDeed)(hl:X.length<2^30)(ho:∀d,d∈X->qe d.it):kP 27 [.ls (X.map aq)] (.tuple [eU (cW jW X),.ls ((fR jW X).map jQ)]):=by
  have h:=YT X hl ho
  exact b6 Tryz.func27<|Kp 3 h<|Kf 3<|bo<|bP [ak [iV (cW jW X).act,iV (cW jW X).item,iV (cW jW X).n,iV (cW jW X).kind,ax (cW jW X).label,aJ<|List.map aQ (cW jW X).head,aJ<|List.map aQ (cW jW X).words,aJ<|List.map aY (cW jW X).kids],aJ<|(fR jW X).map jQ]
theorem WQ(gs:List PGaz)(day:Int)(p:au)(X:List PDeed)(hon:kP 20 [iV day,.str p,.ls (gs.map aI)] (.ls (X.map aq))):kP 26 [iV day,.str p,.ls (gs.map aI)] (.ls (X.map aq)):=by
  exact b6 Tryz.func26<|Kp 3 hon<|Kf 0<|bo<|aJ<|X.map aq
theorem S7(gs:List PGaz)(day:Int)(p:au)(X:List PDeed)(hl:X.length<2^30)(ho:∀d,d∈X->qe d.it)(hon:kP 20 [iV day,.str p,.ls (gs.map aI)] (.ls (X.map aq))):kP 8 [iV day,.str p,.ls (gs.map aI)] (eU (cW jW X)):=by
  have h1:=WQ gs day p X hon
  have h2:=SH X hl ho
  exact b6 Tryz.func8<|Kp 3 h1<|Mp h2<|Kf 7<|bo<|ak [iV (cW jW X).act,iV (cW jW X).item,iV (cW jW X).n,iV (cW jW X).kind,ax (cW jW X).label,aJ<|List.map aQ (cW jW X).head,aJ<|List.map aQ (cW jW X).words,aJ<|List.map aY (cW jW X).kids]
structure OkG(gs:List PGaz):Prop where
  fit:qh gs
  len:gs.length<=9
  acts:∀g,g∈gs->g.acts.length<=20
  items:∀g,g∈gs->∀a,a∈g.acts->a.items.length<=40/\∀x,x∈a.items->nL x=true
theorem IQ{most:Int}:∀(l:List PAct)(n m:Int),most=24->0<=n->mG most l n=some m->0<=m/\∀a,a∈l->a.items.length<=24/\∀x,x∈a.items->nL x=true
  |[],n,m,_,hn,h=>by simp only[mG,yz]at h;exact⟨h▸hn,fun a ha=>by cases ha⟩
  | b::r,n,m,hm,hn,h=>by
    unfold mG at h
    cases hb:BO most n b with
    |true=>rw[hb]at h;cases h
    | false=>
      rw[hb]at h
      unfold BO at hb
      simp only[uc]at hb
      obtain⟨z1,_,_,z2⟩:=hb
      have z1:=aG z1
      obtain⟨q1,q2⟩:=IQ r (n+Int.ofNat b.items.length) m hm (by simp only[oN]at *;omega) h
      refine⟨q1,fun a ha=>?_⟩
      rcases dP.1 ha with rfl|ha
      · refine⟨by simp only[oN]at *;omega,fun x hx=>?_⟩
        have z3:=ry z2
        exact kX.1 z3 x hx
      · exact q2 a ha
theorem NZ:∀(l:List PGaz)(n:Int),0<=n->vb 24 l n=true->∀g,g∈l->g.acts.length<=8/\∀a,a∈g.acts->a.items.length<=24/\∀x,x∈a.items->nL x=true
  |[],_,_,_,g,hg=>by cases hg
  | x::r,n,hn,h,g,hg=>by
    unfold vb at h
    cases hb:wD x with
    |true=>rw[hb]at h;cases h
    | false=>
      rw[hb]at h
      cases ha:mG 24 x.acts n with
      |none=>rw[ha]at h;cases h
      | some m=>
        rw[ha]at h
        obtain⟨q1,q2⟩:=IQ x.acts n m rfl hn ha
        rcases dP.1 hg with rfl|hg
        · unfold wD at hb
          have:=aG (uc.1 hb).1
          exact⟨by simp only[oN]at *;omega,q2⟩
        · exact NZ r m q1 h g hg
theorem XA{gs:List PGaz}{p:au}(hf:qh gs)(h:Yd gs p=true):OkG gs/\gs.length<=8:=by
  unfold Yd at h
  have h1:=(mQ.1 h).1
  unfold IJ at h1
  cases hb:aL 8 (Int.ofNat gs.length)with
  |true=>rw[hb]at h1;cases h1
  | false=>
    rw[hb]at h1
    have:=aG hb
    have hl:gs.length<=8:=by simp only[oN]at *;omega
    have q:=NZ gs 0 (by omega) h1
    exact⟨⟨hf,by omega,fun g hg=>bu (q g hg).1 (by decide),fun g hg a ha=>⟨bu ((q g hg).2 a ha).1 (by decide),((q g hg).2 a ha).2⟩⟩,hl⟩
theorem CI:∀(ys out:List PAct),(ys.foldl kr out).length<=out.length+ys.length
  |[],out=>af _
  | a::r,out=>by
    have:=CI r (kr out a);have:=(P0 out a).2
    simp only[nJ,lC];omega
theorem BZ:∀(gs:List PGaz),(∀g,g∈gs->g.acts.length<=20)->∀out,(bb gs out).length<=out.length+20*gs.length
  |[],_,out=>af _
  | g::r,hb,out=>by
    have:=BZ r (fun x hx=>hb x (dA _ hx)) (g.acts.foldl kr out)
    have:=CI g.acts out
    have:=hb g (ef ..)
    simp only[bb,nJ,lC]at *
    omega
theorem PT{out:List PAct}{a b:PAct}(h:b∈kr out a):b∈out\/b=a:=by
  unfold kr at h
  split at h
  · exact .inl h
  · rcases mZ.1 h with h|h
    · exact .inl h
    · exact .inr (oC.1 h)
theorem CH:∀(ys out:List PAct)(b:PAct),b∈ys.foldl kr out->b∈out\/b∈ys
  |[],out,b,h=>.inl h
  | a::r,out,b,h=>by
    rcases CH r (kr out a) b h with h|h
    · rcases PT h with h|rfl
      · exact .inl h
      · exact .inr (ef ..)
    · exact .inr (dA _ h)
theorem BQ:∀(gs:List PGaz)(out:List PAct)(b:PAct),b∈bb gs out->b∈out\/∃g,g∈gs/\b∈g.acts
  |[],out,b,h=>.inl h
  | g::r,out,b,h=>by
    rcases BQ r (g.acts.foldl kr out) b h with h|⟨g2,q1,q2⟩
    · rcases CH g.acts out b h with h|h
      · exact .inl h
      · exact .inr ⟨g,ef ..,h⟩
    · exact .inr ⟨g2,dA _ q1,q2⟩
theorem vR:∀(l:List PAct),(∀a,a∈l->a.items.length<=40)->(n4 l).length<=40*l.length
  |[],_=>af _
  | a::r,h=>by
    have:=vR r fun b hb=>h b (dA _ hb)
    have:=h a (ef ..)
    simp only[n4,zJ,lA,my,lC]at *
    omega
theorem OkG.act{gs:List PGaz}(h:OkG gs){a:PAct}(ha:a∈iC gs):a.items.length<=40/\(∀x,x∈a.items->nL x=true)/\Sq a:=by
  have ha:=(qU gs).mem_iff.1 ha
  rcases BQ gs [] a ha with q|⟨g,h1,h2⟩
  · cases q
  · exact⟨(h.items g h1 a h2).1,(h.items g h1 a h2).2,(h.fit.2 g h1).2 a h2⟩
noncomputable def uU(gs:List PGaz):List PDeed:=cV (aD (iC gs) []) (iC gs)
theorem OkG.lens{gs:List PGaz}(h:OkG gs):(iC gs).length<=180/\(uU gs).length<=7200:=by
  have h1:=BZ gs h.acts []
  have h2:=(qU gs).length_eq
  have h3:=vR (iC gs) fun a ha=>(h.act ha).1
  have h4:=h.len
  have h5:(uU gs).length=(n4 (iC gs)).length:=cJ ..
  simp only[lN]at h1
  omega
theorem OkG.all{gs:List PGaz}(h:OkG gs):kP 77 [.ls (gs.map aI)] (.ls ((iC gs).map ay))/\kP 94 [.ls (gs.map aI)] (.ls ((uU gs).map aq)):=by
  have h1:=h.lens
  have h2:=(qU gs).length_eq
  have h3:(uU gs).length=(n4 (iC gs)).length:=cJ ..
  have h4:=h.len
  exact⟨Np gs h.fit (fun g hg=>oB (h.acts g hg) (by decide)) (by omega) (by omega),Ri gs h.fit (fun g hg=>oB (h.acts g hg) (by decide)) (by omega) (by omega) (fun a ha=>oB (h.act ha).1 (by decide)) (by omega)⟩
theorem YM{x y:PItem}(h:nL x=true)(hy:y∈x.by_):nL y=true:=by
  rw[FQ]at h
  simp only[bZ]at h
  have:=kX.1 h.2.2.2.2.2 y hy
  unfold II at this
  exact(mQ.1 this).2
theorem YL{x y:PItem}(h:n6 x)(hy:y∈x.by_):n6 y:=(rA.1 h).2.2.2.2.2.2 y hy
theorem GA{K V:Type}{keq:K->K->Bool}{k:K}{v:V}:∀{l:List (K×V)}{e:K×V},e∈fZ keq k v l->e∈l\/e.2=v
  | [],e,h=>by
    rw[fZ,oC]at h;exact .inr (by rw[h])
  | (j,u)::r,e,h=>by
    rw[fZ]at h
    cases q:keq k j with
    | true=>
      rw[q]at h
      rcases dP.1 h with h|h
      · exact .inr (by rw[h])
      · exact .inl (dA _ h)
    | false=>
      rw[q]at h
      rcases dP.1 h with h|h
      · exact .inl (by rw[h];exact ef ..)
      · rcases GA (l:=r) h with h|h
        · exact .inl (dA _ h)
        · exact .inr h
theorem va{K V:Type}{keq:K->K->Bool}{k:K}{v:V}:∀{l:List (K×V)},ip keq k l=some v->∃e,e∈l/\e.2=v
  |[],h=>by cases h
  | (j,u)::r,h=>by
    rw[ip]at h
    cases q:keq k j with
    |true=>rw[q]at h;exact⟨(j,u),ef ..,Lq h⟩
    | false=>
      rw[q]at h
      obtain⟨e,h1,h2⟩:=va (l:=r) h
      exact⟨e,dA _ h1,h2⟩
theorem O4{m:List ((Int×Int)×PItem)}{x:PItem}(hm:∀e,e∈m->qe e.2)(h1:nL x=true)(h2:n6 x):∀e,e∈j8 m x->qe e.2:=by
  unfold j8
  split
  · rename_i h
    simp only[bZ]at h
    have hl:=ap h.1.2
    have hy:gD x.by_ 0∈x.by_:=gc (by simp only[oN]at hl;omega)
    intro e he
    rcases GA he with q|q
    · exact hm e q
    · rw[q];exact Q3 (YL h2 hy) (YM h1 hy)
  · exact hm
theorem DF:∀(xs:List PItem)(m:List ((Int×Int)×PItem)),(∀e,e∈m->qe e.2)->(∀x,x∈xs->nL x=true/\n6 x)->∀e,e∈xs.foldl j8 m->qe e.2
  |[],_,hm,_=>hm
  |x::r,m,hm,h=>DF r (j8 m x) (O4 hm (h x (ef ..)).1 (h x (ef ..)).2) fun y hy=>h y (dA _ hy)
theorem DE:∀(l:List PAct)(m:List ((Int×Int)×PItem)),(∀e,e∈m->qe e.2)->(∀a,a∈l->∀x,x∈a.items->nL x=true/\n6 x)->∀e,e∈aD l m->qe e.2
  |[],_,hm,_=>hm
  |a::r,m,hm,h=>DE r (a.items.foldl j8 m) (DF a.items m hm (h a (ef ..))) fun b hb=>h b (dA _ hb)
theorem Bg(a:PAct):∀(l:List PItem)(i:Nat)(d:PDeed),d∈cD a l i->d.it∈l
  |[],_,d,h=>by cases h
  | x::r,i,d,h=>by
    rcases dP.1 h with rfl|h
    · exact ef ..
    · exact dA _ (Bg a r _ d h)
theorem OkG.deed{gs:List PGaz}(h:OkG gs){d:PDeed}(hd:d∈uU gs):qe d.it:=by
  have hi:∀a,a∈iC gs->∀x,x∈a.items->nL x=true/\n6 x:=fun a ha x hx=>⟨(h.act ha).2.1 x hx,(h.act ha).2.2.2 x hx⟩
  obtain⟨o,ho,rfl⟩:=gO.1 hd
  obtain⟨a,ha,hoa⟩:=List.mem_flatMap.1 ho
  have h1:=hi a ha _ (Bg a _ _ _ hoa)
  have h2:qe o.it:=Q3 h1.2 h1.1
  unfold n5
  split
  · rename_i hc
    have hc:=(mQ.1 hc).1
    unfold rm at hc
    show qe (Jv (aD (iC gs) []) o)
    unfold Jv
    cases q:ip qQ (o.act,o.item) (aD (iC gs) [])with
    |none=>rw[q]at hc;cases hc
    | some v=>
      obtain⟨e,e1,e2⟩:=va q
      have:=DE (iC gs) [] (fun e he=>by cases he) hi e e1
      rw[e2]at this
      exact this
  · exact h2
noncomputable def pR(day:Int)(p:au)(gs:List PGaz):List PDeed:=onL day p (iC gs) (uU gs)
noncomputable def W0(day:Int)(p:au)(gs:List PGaz):TUnit:=cW jW (pR day p gs)
theorem OkG.force{gs:List PGaz}(h:OkG gs)(day:Int)(p:au):(pR day p gs).length<2^30/\(∀d,d∈pR day p gs->qe d.it)/\kP 20 [iV day,.str p,.ls (gs.map aI)] (.ls ((pR day p gs).map aq)):=by
  have hl:=h.lens
  have h1:(pR day p gs).length<=(uU gs).length:=List.length_filter_le ..
  exact⟨by omega,fun d hd=>h.deed (zW.1 hd).1,ZA gs _ _ day p (by omega) (by omega) h.all.1 h.all.2⟩
theorem OkG.book{gs:List PGaz}(h:OkG gs)(day:Int)(p:au):kP 8 [iV day,.str p,.ls (gs.map aI)] (eU (W0 day p gs)):=
  S7 gs day p _ (h.force day p).1 (h.force day p).2.1 (h.force day p).2.2
theorem P3{xs ys:List AV}{n:Nat}(h:xs.length=n):((xs++ys).drop 0).take n=xs:=List.take_left' h
noncomputable abbrev mH(x:PId):AObj:=.row 3 false 0 [aX x]
noncomputable abbrev cP(p:List PStep):AObj:=.row 1 false 0 [.ls (p.map aK)]
theorem nZ:kP 51 [] (eU jW):=by
  exact wk Tryz.func51 (.go 2 .fin) (bV (lc<|lc<|lc<|lc<|lc<|.cons bO<|.cons bO<|.cons bO .nil)<|by kernel_rfl:Le _ (AV.agg [iV 0,iV 0,iV 0,iV 0,AV.str [],AV.nils,AV.nils,AV.nils]))
end Go.Proofs.YtdhkhecalpkngaaGreatDoor
