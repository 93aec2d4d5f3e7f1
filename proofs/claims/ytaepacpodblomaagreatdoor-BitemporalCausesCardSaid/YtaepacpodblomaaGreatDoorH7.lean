/- Functions walked: what each of them answers, for On every day that a gazette changed, an item that the gazette contains or refers to is in force before or after it, or the gazette declares an event: part 7. Conditions: those that each theorem names. -/
import Derived.Test.YtaepacpodblomaaGreatDoorH6
namespace Go.Proofs.YtaepacpodblomaaGreatDoor
open Go Go.Ev
noncomputable abbrev m0(ep:Nat)(out:List Int):AObj:=.row 1 true ep (out.map aw)
theorem qE:kP 46 [.nils] (.ls ((fg []).map aJ)):=(gU [] (by simp)).onArgs (.cons Le.nils .nil)
theorem D0{g:Int→Bool}{K:List Int}{x e:Nat}{S:List PSpan}(h:S=di g (K.drop (x-1)))(h1:1≤x)(h2:x<K.length)(hg:g (gD K (x-1))=true)(he:e=x+1):S=⟨gD K (x-1),gD K x⟩::di g (K.drop (e-1)):=by rw[h,CC h1 h2,hg,he]
theorem D6{g:Int→Bool}{K:List Int}{x e:Nat}{S:List PSpan}(h:S=di g (K.drop (x-1)))(h1:1≤x)(h2:x<K.length)(hg:g (gD K (x-1))=false)(he:e=x+1):S=di g (K.drop (e-1)):=by rw[h,CC h1 h2,hg,he]
theorem Zd:an (bK (pi []))=[]:=sk (by have z:=BX [];exact Nat.le_zero.1 z)
theorem YK{A B x y:List PSpan}(h1:A=x)(h2:B=y):x++y=A++B:=by rw[h1,h2]
theorem SH{A B x:List PSpan}(h1:A=x)(h2:B=[]):x=A++B:=by rw[h1,h2,dE]
theorem Ws{A B y:List PSpan}(h1:A=[])(h2:B=y):y=A++B:=by rw[h1,h2];rfl
theorem Us{A r:List PSpan}{w:PSpan}(h:A=w::r)(hl:A.length≤1048577):r.length<2^30:=by rw[h,lC]at hl;omega
theorem TG{A B:List PSpan}{w v:PSpan}{r s:List PSpan}(h:A=w::r)(k:B=v::s)(hl:A.length≤1048577)(kl:B.length≤1048577):small (r.length+1+((v::s).map aJ).length) 16=true:=by
  rw[h,lC]at hl;rw[k,lC]at kl
  rw[lM,lC];refine cC (m:=2^31) ?_ ?_ ?_<;>omega
theorem K5{B:List PSpan}{v:PSpan}{s:List PSpan}(k:B=v::s)(kl:B.length≤1048577):small ((v::s).map aJ).length 16=true:=by
  rw[k,lC]at kl
  rw[lM,lC];refine cC (m:=2^31) ?_ ?_ ?_<;>omega
def SN(F:Nat)(A:List PSpan)(B:List PSpan)(z20:List PSpan):Prop:=z20=A++B
noncomputable def SM(F:Nat)(A:List PSpan)(B:List PSpan)(z20:List PSpan):List AV×List AObj:=([AV.ls (A.map aJ),AV.ls (B.map aJ),AV.func (Fn.func F) [] [],AV.nils,AV.ls (z20.map aJ),nV z20.length,iV 0],[])
def OR(F:Nat)(A:List PSpan)(B:List PSpan)(z20:List PSpan)(z37:List Int):Prop:=z37=iB z20
noncomputable def OP(F:Nat)(A:List PSpan)(B:List PSpan)(z20:List PSpan)(z37:List Int):List AV×List AObj:=([AV.ls (A.map aJ),AV.ls (B.map aJ),AV.func (Fn.func F) [] [],AV.ls (z37.map aw)],[])
def OO(F:Nat)(A:List PSpan)(B:List PSpan)(z20:List PSpan)(z37:List Int):Prop:=z37=iB z20
noncomputable def ON(F:Nat)(A:List PSpan)(B:List PSpan)(z20:List PSpan)(z37:List Int):List AV×List AObj:=([AV.ls (A.map aJ),AV.ls (B.map aJ),AV.func (Fn.func F) [] [],AV.ls (z37.map aw)],[])
theorem MT(F:Nat)(op:Bool→Bool→Bool)(hF:∀x y,aC Tryz.prog G F [.bool x,.bool y] (.bool (op x y)))(e0:op false false=false)(a b:List PSpan)(ha:a.length<2^30)(hb:b.length<2^30):
    aC Tryz.prog G 207 [.ls (a.map aJ),.ls (b.map aJ),.func (.func F) [] []] (.ls ((so op a b).map aJ)):=by
  have nA:=gU a ha
  have nB:=gU b hb
  have hA:=j6 a
  have hB:=j6 b
  have hd:=OS e0 (a:=a) (b:=b) rfl rfl
  generalize fg a=A at *
  generalize fg b=B at *
  have lA:=hA.len
  have lB:=hB.len
  have hasA:∀d,aC Tryz.prog G 71 [.ls (A.map aJ),.int .i64 d] (.bool (iZ A d)):=fun d=>Jt A d hA.sort (by omega)
  have hasB:∀d,aC Tryz.prog G 71 [.ls (B.map aJ),.int .i64 d] (.bool (iZ B d)):=fun d=>Jt B d hB.sort (by omega)
  obtain⟨g,hg⟩:∃g:Int→Bool,g=fun d=>op (iZ A d) (iZ B d):=⟨_,rfl⟩
  have hgv:∀d v0,op (iZ A d) (iZ B d)=v0→g d=v0:=fun d v0 h=>by rw[hg];exact h
  rw[←hg]at hd
  have hcl:∀x,x=A++B→(iB x).length<2^30:=fun x hx=>by
    have z:=BX x
    rw[hx,dL]at z
    rw[hx];omega
  have hll:∀x,x=A++B→x.length<2^22:=fun x hx=>by rw[hx,dL];omega
  obtain⟨res,hres⟩:∃res,res=so op a b:=⟨_,rfl⟩
  rw[←hres]at hd ⊢
  have hdone:∀x y z,x=A++B→y=iB x→di g y=z→fg z=res:=fun x y z h1 h2 h3=>by rw[←h3,h2,h1];exact hd
  clear hd hg hres hA hB
  have rr0 b' (h:(List.map aJ res)=b':=by first|rfl|exact hdone _ _ _ hz20 hz37 (by rw[hx1.2.2,lz hx1.1 (by(first|omega|(simp only[aP]at *;omega)))])|exact(hdone _ _ _ hz20 hz37 (by rw[hx1.2.2.2.2,lz hx1.1 (by(first|omega|(simp only[aP]at *;omega))),dE]))|(rw[hdone _ _ _ hz20 hz37 (by rw[hx1.2.2,lz hx1.1 (by(first|omega|(simp only[aP]at *;omega)))])])|(rw[hdone _ _ _ hz20 hz37 (by rw[hx1.2.2.2.2,lz hx1.1 (by(first|omega|(simp only[aP]at *;omega))),dE])])):=h;exact bG Tryz.func207<|Kp 1 nA<|Kp 0 nB<|Mg 2<|M0 .inn<|Mj (List PSpan) [0,1,2,7,20,21,22] (SM F A B) (SN F A B) (fun c=>Mg 0<|Mc A (fun e=>Ml 17 (fe<|by rw[e];rfl:Le (aW []) (aW (List.map aJ A)))<|Mz 17 (fun(_:([]:List AV)=[])=>Mg 1<|Mc B (fun e=>Ml 19 (fe<|by rw[e];rfl:Le (aW []) (aW (List.map aJ B)))<|Kl 0 20 bM<|Kf 1<|c [] (by exact SH (by assumption) (by assumption):[]=A++B)) fun e f i=>Ml 19 (fe<|by rw[i]:Le (aW (List.map aJ (e::f))) (aW (List.map aJ B)))<|M2 .apl (et (by exact kN _ _:List.map aJ (e::f)≠[])<|fM 2 aJ (e::f) fun _=>rfl) (by exact K5 (by assumption) lB:small (List.map aJ (e::f)).length 16=true)<|M2 (.fsl 0 [0,1,2,7] 20<|List.map aJ<|e::f) True.intro (ca (aK 0) (tA aJ (e::f) (List.map aJ<|e::f).length (by(simp only[cZ,cR,dL];done):(e::f).length=(List.map aJ (e::f)).length))<|aX Wm<|e::f)<|Ml 20 (fm (List.map aJ<|e::f) false<|aX Wm<|e::f)<|Kl 0 21 (ln aJ<|e::f)<|Kf 0<|c (e::f) (by exact Ws (by assumption) (by assumption):e::f=A++B))<|Mg 1<|Mc B (fun e=>Ml 19 (fe<|by rw[e];rfl:Le (aW []) (aW (List.map aJ B)))<|Kl 0 20 (fm [] true (aK 0:az ([])=0))<|Kf 1<|c [] (by exact SH (by assumption) (by assumption):[]=A++B)) fun e f i=>Ml 19 (fe<|by rw[i]:Le (aW (List.map aJ (e::f))) (aW (List.map aJ B)))<|M2 .apl (et (by exact kN _ _:List.map aJ (e::f)≠[])<|fM 2 aJ (e::f) fun _=>rfl) (by exact K5 (by assumption) lB:small (List.map aJ (e::f)).length 16=true)<|M2 (.fsl 0 [0,1,2,7] 20<|List.map aJ<|e::f) True.intro (ca (aK 0) (tA aJ (e::f) (List.map aJ<|e::f).length (by(simp only[cZ,cR,dL];done):(e::f).length=(List.map aJ (e::f)).length))<|aX Wm<|e::f)<|Ml 20 (fm (List.map aJ<|e::f) false<|aX Wm<|e::f)<|Kl 0 21 (ln aJ<|e::f)<|Kf 0<|c (e::f) (by exact Ws (by assumption) (by assumption):e::f=A++B)) fun e f i=>Ml 17 (fe<|by rw[i]:Le (aW (List.map aJ (e::f))) (aW (List.map aJ A)))<|Me (Sm e f<|by exact Us (by assumption) lA)<|Mg 0<|Mc B (fun i=>Ml 19 (fe<|by rw[i];rfl:Le (aW []) (aW (List.map aJ B)))<|Mg 0<|M2 (.fsl 0 [0,1,2,7] 20<|List.map aJ<|e::f) True.intro (ca (aK 0) (tA aJ (e::f) (f.length+1) rfl)<|aX Wm<|e::f)<|Ml 20 (fm (List.map aJ<|e::f) false<|aX Wm<|e::f)<|Kl 0 21 (ln aJ<|e::f)<|Kf 0<|c (e::f) (by exact SH (by assumption) (by assumption):e::f=A++B)) fun i j k=>Ml 19 (fe<|by rw[k]:Le (aW (List.map aJ (i::j))) (aW (List.map aJ B)))<|M2 .apl (et (by exact kN _ _:List.map aJ (i::j)≠[])<|fM 2 aJ (i::j) fun _=>rfl) (ca (aK 0) (by(simp only[cZ,cR,dL];done):f.length+1=(List.map aJ (e::f)).length) (by exact TG (by assumption) (by assumption) lA lB:small (f.length+1+(List.map aJ (i::j)).length) 16=true))<|M1 (.obj 0<|aZ 2 true (0+1)<|List.map aJ<|e::f++i::j) (congrArg (aZ 2 true<|0+1)<|dZ (f:=aJ) (l:=e::f) (ws:=i::j))<|M2 (.fsl 0 [0,1,2,7] 20<|List.map aJ<|e::f++i::j) True.intro (ca (aK<|0+1) (tA aJ (e::f++i::j) (f.length+1+(List.map aJ<|i::j).length) (by(simp only[cZ,cR,dL];done):(e::f++i::j).length=f.length+1+(List.map aJ (i::j)).length))<|aX Wm<|e::f++i::j)<|Ml 20 (fm (List.map aJ<|e::f++i::j) false<|aX Wm<|e::f++i::j)<|Kl 0 21 (ln aJ<|e::f++i::j)<|Kf 0<|c (e::f++i::j) (by exact YK (by assumption) (by assumption):e::f++i::j=A++B)) fun c hz20=>have hz20:=hz20;kM Nat Nat (List Int) aJ c [0,1,2,7,20,21,22] (fun e _=>([aW<|A.map aJ,aW<|B.map aJ,bx (bz F) [] [],al,aW<|c.map aJ,nV c.length,nV e],[])) (fun e _ f i j=>([aW<|A.map aJ,aW<|B.map aJ,bx (bz F) [] [],aM 0 f 0 i none,aW<|c.map aJ,nV c.length,nV e],[aZ 1 true f<|j.map aw])) (fun e=>pi c=pi e) (fun e _ f i=>f=i.length∧(0:Nat)<i.length∧pi c=i++pi e) (by rfl) (fun _ _ _ _ _ e f=>Kh 0 e<|Kp 0 GT<|Mj (List Int) [0,1,2,7] (OP F A B c) (OR F A B c) (fun e=>Kl 1 37 bM<|Kf 0<|e [] (by(unfold iB;rw[f];exact Zd.symm):[]=iB c)) fun e hz37=>have hz37:=hz37;have:=hz37▸hcl _ hz20;Mg 1<|Tj Nat Nat Nat (List PSpan) (1:Nat) [0,1,2,7,10,11] (fun c=>([aW<|A.map aJ,aW<|B.map aJ,bx (bz F) [] [],aW<|e.map aw,al,nV c],[])) (fun c f i j=>([aW<|A.map aJ,aW<|B.map aJ,bx (bz F) [] [],aW<|e.map aw,aM 0 f 0 i none,nV c],[aZ 2 true f<|j.map aJ])) (fun c=>(1:Nat)≤c∧c≤2^30∧di g e=di g (e.drop<|c-1)) (fun c _ f i=>(1:Nat)≤c∧c≤2^30∧f=i.length∧i.length<c∧di g e=i++di g (e.drop<|c-1)) (fun c=>2^31-c) (fun c _ _ _=>2^31-c) (by exact⟨aB _,by omega,rfl⟩) (fun c hx1 f i=>have hx1:=hx1;have:=hx1.1;have:=hx1.2.1;Kl 2 40 (ln aw e)<|Ka 0 (Int.ofNat c) (Int.ofNat e.length) (fun _ _=>Kl 2 46 (yz c)<|Mx (bY aw (by(simp only[aP,cZ,kB]at *;omega):c-1<(e).length))<|Kp 4 (hasA<|gD e<|c-1)<|Kp 1 (hasB<|gD e<|c-1)<|Mp (hF (iZ A<|gD e<|c-1)<|iZ B<|gD e<|c-1)<|Mb (op (iZ A<|gD e<|c-1)<|iZ B<|gD e<|c-1) (fun _=>Kx 3 (bY aw (by(simp only[aP,cZ,kB]at *;omega):c<(e).length))<|Kl 6 43 (jk c)<|Kf 0<|i (c+1) 0 1 [PSpan.mk (gD e<|c-1)<|gD e c] (by exact⟨by(omega),by(simp only[aP]at *;omega),rfl,by(simp only[cR,gN];omega),D0 hx1.2.2 hx1.1 (by(simp only[aP]at *;omega)) (hgv _ _ (by assumption)) rfl⟩)<|by(omega)) fun _=>Kl 1 43 (jk c)<|Kf 0<|f (c+1) (by exact⟨by(omega),by(simp only[aP]at *;omega),D6 hx1.2.2 hx1.1 (by(simp only[aP]at *;omega)) (hgv _ _ (by assumption)) rfl⟩)<|by(omega)) fun _ _=>Kp 0 qE<|Kf 0<|cQ<|rr0<|List.map aJ<|fg []) fun c i j k hx1 _ l=>have hx1:=hx1;have:=hx1.1;have:=hx1.2.1;Kl 2 40 (ln aw e)<|Ka 0 (Int.ofNat c) (Int.ofNat e.length) (fun _ _=>Kl 2 46 (yz c)<|Mx (bY aw (by(simp only[aP,cZ,kB]at *;omega):c-1<(e).length))<|Kp 4 (hasA<|gD e<|c-1)<|Kp 1 (hasB<|gD e<|c-1)<|Mp (hF (iZ A<|gD e<|c-1)<|iZ B<|gD e<|c-1)<|Mb (op (iZ A<|gD e<|c-1)<|iZ B<|gD e<|c-1) (fun _=>Kx 3 (bY aw (by(simp only[aP,cZ,kB]at *;omega):c<(e).length))<|K1 2 .app (ca (aK i) (by(rw[cZ];first|exact f.1|exact hx1.2.2.1):j=(List.map aJ k).length) (by(refine cC (m:=2^31) ?_ ?_ ?_<;>first|omega|(simp only[cZ,cR,dL,gN];omega)|(have z:=congrArg List.length f.2.2;rw[kh,dL]at z;have z9:=hll _ hz20;have z2:=f.1;first|omega|(simp only[cR,gN];omega))|(have z:=hx1.2.2.2.1;have z2:=hx1.2.2.1;have z3:=hx1.2.1;first|omega|(simp only[cR,gN];omega))):small (j+1) 16=true))<|M1 (.obj 0<|aZ 2 true (i+1)<|List.map aJ<|k++[PSpan.mk (gD e<|c-1)<|gD e c]) (congrArg (aZ 2 true<|i+1)<|dZ (f:=aJ) (l:=k) (ws:=[PSpan.mk (gD e<|c-1)<|gD e c]))<|Kl 2 43 (jk c)<|Kf 0<|l (c+1) (i+1) (j+1) (k++[PSpan.mk (gD e<|c-1)<|gD e c]) (by exact⟨by(omega),by(simp only[aP]at *;omega),by rw[dL,←hx1.2.2.1];rfl,by(have z:=hx1.2.2.2.1;simp only[dL,cR,gN];omega),by rw[hx1.2.2.2.2,D0 rfl hx1.1 (by(simp only[aP]at *;omega)) (hgv _ _ (by assumption)) rfl];simp⟩)<|by(omega)) fun _=>Kl 1 43 (jk c)<|Kf 0<|l (c+1) i j k (by exact⟨by(omega),by(simp only[aP]at *;omega),hx1.2.2.1,by(have z:=hx1.2.2.2.1;omega),by rw[hx1.2.2.2.2,D6 rfl hx1.1 (by(simp only[aP]at *;omega)) (hgv _ _ (by assumption)) rfl]⟩)<|by(omega)) fun _ _=>Mg 0<|M2 (.fsl 0 [] 66<|List.map aJ k) True.intro (ca (aK i) (tA aJ k j (by(omega):(k).length=j))<|aX Wm k)<|Ml 66 (fm (List.map aJ k) false<|aX Wm k)<|Mp (gU k<|by(omega))<|Kf 0<|cQ<|rr0<|List.map aJ<|fg k) (fun e _ _ _ f i _ j _ k _ l n=>have:=hll _ hz20;Kt 0 k<|Mx l<|Kl 11 33 (jk e)<|Mg 0<|M0 (.ren [1,0] [] [0,1,2,7,20,21,22])<|M1 (.frz 1 [0,1,2,7,20,21,22]) (et (aK true) True.intro)<|Mf<|j 0 2 [f.from_,f.to]<|by exact⟨rfl,by simp,by rw[n];rfl⟩) (fun _ _ e f i _ _ _ j k=>Kh 0 j<|Ke 0 (Al i e f (by(omega)) (by(omega))<|by(have z:=congrArg List.length k.2.2;rw[kh,dL]at z;have z9:=hll _ hz20;omega))<|Mj (List Int) [0,1,2,7] (ON F A B c) (OO F A B c) (fun j=>Ke 0 (sl (bK i) e f (by(rw[(jD _).length_eq];first|exact k.1|exact k.2.1|(have z:=congrArg List.length k.2.2;rw[kh,dL]at z;have z9:=hll _ hz20;omega))) (by(rw[(jD _).length_eq];first|exact k.1|exact k.2.1|(have z:=congrArg List.length k.2.2;rw[kh,dL]at z;have z9:=hll _ hz20;omega)))<|by(rw[(jD _).length_eq];first|exact k.1|exact k.2.1|(have z:=congrArg List.length k.2.2;rw[kh,dL]at z;have z9:=hll _ hz20;omega)))<|M2 (.fsl 0 [0,1,2] 37<|List.map aw<|List.take (an<|bK i).length<|an (bK i)++List.replicate ((bK i).length -(an<|bK i).length) 0) True.intro (ca (aK e) (wT (f:=aw) (l:=an (bK i)++List.replicate ((bK i).length -(an<|bK i).length) 0) (n:=(an<|bK i).length))<|aX J1<|List.take (an<|bK i).length<|an (bK i)++List.replicate ((bK i).length -(an<|bK i).length) 0)<|Ml 37 (fm (List.map aw<|List.take (an<|bK i).length<|an (bK i)++List.replicate ((bK i).length -(an<|bK i).length) 0) false<|aX J1<|List.take (an<|bK i).length<|an (bK i)++List.replicate ((bK i).length -(an<|bK i).length) 0)<|Kf 0<|j (List.take (an<|bK i).length<|an (bK i)++List.replicate ((bK i).length -(an<|bK i).length) 0) (by(unfold iB;rw[k.2.2];simp[pi]):List.take (an (bK i)).length (an (bK i)++List.replicate ((bK i).length -(an (bK i)).length) (0:Int))=iB c)) fun e hz37=>have hz37:=hz37;have:=hz37▸hcl _ hz20;Mg 1<|Tj Nat Nat Nat (List PSpan) (1:Nat) [0,1,2,7,10,11] (fun c=>([aW<|A.map aJ,aW<|B.map aJ,bx (bz F) [] [],aW<|e.map aw,al,nV c],[])) (fun c f i j=>([aW<|A.map aJ,aW<|B.map aJ,bx (bz F) [] [],aW<|e.map aw,aM 0 f 0 i none,nV c],[aZ 2 true f<|j.map aJ])) (fun c=>(1:Nat)≤c∧c≤2^30∧di g e=di g (e.drop<|c-1)) (fun c _ f i=>(1:Nat)≤c∧c≤2^30∧f=i.length∧i.length<c∧di g e=i++di g (e.drop<|c-1)) (fun c=>2^31-c) (fun c _ _ _=>2^31-c) (by exact⟨aB _,by omega,rfl⟩) (fun c hx1 f i=>have hx1:=hx1;have:=hx1.1;have:=hx1.2.1;Kl 2 40 (ln aw e)<|Ka 0 (Int.ofNat c) (Int.ofNat e.length) (fun _ _=>Kl 2 46 (yz c)<|Mx (bY aw (by(simp only[aP,cZ,kB]at *;omega):c-1<(e).length))<|Kp 4 (hasA<|gD e<|c-1)<|Kp 1 (hasB<|gD e<|c-1)<|Mp (hF (iZ A<|gD e<|c-1)<|iZ B<|gD e<|c-1)<|Mb (op (iZ A<|gD e<|c-1)<|iZ B<|gD e<|c-1) (fun _=>Kx 3 (bY aw (by(simp only[aP,cZ,kB]at *;omega):c<(e).length))<|Kl 6 43 (jk c)<|Kf 0<|i (c+1) 0 1 [PSpan.mk (gD e<|c-1)<|gD e c] (by exact⟨by(omega),by(simp only[aP]at *;omega),rfl,by(simp only[cR,gN];omega),D0 hx1.2.2 hx1.1 (by(simp only[aP]at *;omega)) (hgv _ _ (by assumption)) rfl⟩)<|by(omega)) fun _=>Kl 1 43 (jk c)<|Kf 0<|f (c+1) (by exact⟨by(omega),by(simp only[aP]at *;omega),D6 hx1.2.2 hx1.1 (by(simp only[aP]at *;omega)) (hgv _ _ (by assumption)) rfl⟩)<|by(omega)) fun _ _=>Kp 0 qE<|Kf 0<|cQ<|rr0<|List.map aJ<|fg []) fun c f i j hx1 _ l=>have hx1:=hx1;have:=hx1.1;have:=hx1.2.1;Kl 2 40 (ln aw e)<|Ka 0 (Int.ofNat c) (Int.ofNat e.length) (fun _ _=>Kl 2 46 (yz c)<|Mx (bY aw (by(simp only[aP,cZ,kB]at *;omega):c-1<(e).length))<|Kp 4 (hasA<|gD e<|c-1)<|Kp 1 (hasB<|gD e<|c-1)<|Mp (hF (iZ A<|gD e<|c-1)<|iZ B<|gD e<|c-1)<|Mb (op (iZ A<|gD e<|c-1)<|iZ B<|gD e<|c-1) (fun _=>Kx 3 (bY aw (by(simp only[aP,cZ,kB]at *;omega):c<(e).length))<|K1 2 .app (ca (aK f) (by(rw[cZ];first|exact k.1|exact hx1.2.2.1):i=(List.map aJ j).length) (by(refine cC (m:=2^31) ?_ ?_ ?_<;>first|omega|(simp only[cZ,cR,dL,gN];omega)|(have z:=congrArg List.length k.2.2;rw[kh,dL]at z;have z9:=hll _ hz20;have z2:=k.1;first|omega|(simp only[cR,gN];omega))|(have z:=hx1.2.2.2.1;have z2:=hx1.2.2.1;have z3:=hx1.2.1;first|omega|(simp only[cR,gN];omega))):small (i+1) 16=true))<|M1 (.obj 0<|aZ 2 true (f+1)<|List.map aJ<|j++[PSpan.mk (gD e<|c-1)<|gD e c]) (congrArg (aZ 2 true<|f+1)<|dZ (f:=aJ) (l:=j) (ws:=[PSpan.mk (gD e<|c-1)<|gD e c]))<|Kl 2 43 (jk c)<|Kf 0<|l (c+1) (f+1) (i+1) (j++[PSpan.mk (gD e<|c-1)<|gD e c]) (by exact⟨by(omega),by(simp only[aP]at *;omega),by rw[dL,←hx1.2.2.1];rfl,by(have z:=hx1.2.2.2.1;simp only[dL,cR,gN];omega),by rw[hx1.2.2.2.2,D0 rfl hx1.1 (by(simp only[aP]at *;omega)) (hgv _ _ (by assumption)) rfl];simp⟩)<|by(omega)) fun _=>Kl 1 43 (jk c)<|Kf 0<|l (c+1) f i j (by exact⟨by(omega),by(simp only[aP]at *;omega),hx1.2.2.1,by(have z:=hx1.2.2.2.1;omega),by rw[hx1.2.2.2.2,D6 rfl hx1.1 (by(simp only[aP]at *;omega)) (hgv _ _ (by assumption)) rfl]⟩)<|by(omega)) fun _ _=>Mg 0<|M2 (.fsl 0 [] 66<|List.map aJ j) True.intro (ca (aK f) (tA aJ j i (by(omega):(j).length=i))<|aX Wm j)<|Ml 66 (fm (List.map aJ j) false<|aX Wm j)<|Mp (gU j<|by(omega))<|Kf 0<|cQ<|rr0<|List.map aJ<|fg j) fun e _ f i j _ _ k l _ n _ o _ p q=>have:=hll _ hz20;Kt 0 o<|Mx p<|K1 8 .app (ca (aK f) (by(rw[cZ];first|exact q.1|exact hx1.2.2.1):i=(List.map aw j).length) (by(refine cC (m:=2^31) ?_ ?_ ?_<;>first|omega|(simp only[cZ,cR,dL,gN];omega)|(have z:=congrArg List.length q.2.2;rw[kh,dL]at z;have z9:=hll _ hz20;have z2:=q.1;first|omega|(simp only[cR,gN];omega))|(have z:=hx1.2.2.2.1;have z2:=hx1.2.2.1;have z3:=hx1.2.1;first|omega|(simp only[cR,gN];omega))):small (i+2) 8=true))<|M1 (.obj 0<|aZ 1 true (f+1)<|List.map aw<|j++[k.from_,k.to]) (congrArg (aZ 1 true<|f+1)<|dZ (f:=aw) (l:=j) (ws:=[k.from_,k.to]))<|Kl 1 33 (jk e)<|K1 0 (.frz 1 [0,1,2,7,20,21,22]) (et (tR 1 true (f+1) 1<|aX J1<|j++[k.from_,k.to]) True.intro)<|Mf<|n (f+1) (i+2) (j++[k.from_,k.to])<|by exact⟨by rw[dL,←q.1];rfl,by simp,by rw[q.2.2,De];simp⟩
theorem XW(x y:Bool):kP 208 [.bool x,.bool y] (.bool (x||y)):=by
  have rr0 b' (h:(x||y)=b':=by simp only[aS,ak,bS, *]):=h;exact bG Tryz.func208<|Kb 2 x (fun a=>MV a<|Ky 0<|rr0 true) fun a=>Kw 0 a<|Ky 0<|rr0 y
theorem V4(x y:Bool):kP 209 [.bool x,.bool y] (.bool (x&&y)):=by
  have rr0 b' (h:(x&&y)=b':=by simp only[aS,ak,bS, *]):=h;exact bG Tryz.func209<|Kb 2 x (fun a=>Ku 0 a<|Ky 0<|rr0 y) fun a=>My a<|Ky 0<|rr0 false
theorem Pp(a b:List PSpan)(ha:a.length<2^30)(hb:b.length<2^30):kP 147 [.ls (a.map aJ),.ls (b.map aJ)] (.ls ((so (· || ·) a b).map aJ)):=by
  have h:=MT 208 (· || ·) XW rfl a b ha hb
  exact bG Tryz.func147<|Kp 2 h<|Kf 0<|bh<|aW<|(so (fun c d=>c||d) a b).map aJ
theorem RJ(a b:List PSpan)(ha:a.length<2^30)(hb:b.length<2^30):kP 150 [.ls (a.map aJ),.ls (b.map aJ)] (.ls ((so (· && ·) a b).map aJ)):=by
  have h:=MT 209 (· && ·) V4 rfl a b ha hb
  exact bG Tryz.func150<|Kp 2 h<|Kf 0<|bh<|aW<|(so (fun c d=>c&&d) a b).map aJ
noncomputable def o5(a:List PSpan)(d:Int):List PSpan:=so (· && ·) a [⟨0,d⟩]
noncomputable def pT(a:List PSpan)(d:Int):List PSpan:=so (· || ·) (o5 a d) [⟨d,1048577⟩]
theorem sE(a:List PSpan)(d:Int):NrmS (o5 a d):=AZ _
theorem uI(a:List PSpan)(d:Int):NrmS (pT a d):=AZ _
theorem FC(a:List PSpan)(d:Int)(ha:a.length<2^30):kP 122 [.ls (a.map aJ),iV d] (.ls ((o5 a d).map aJ)):=by
  have h:kP 150 [.ls (a.map aJ),.ps [aJ ⟨0,d⟩] true] (.ls ((o5 a d).map aJ)):=(RJ a [⟨0,d⟩] ha (by simp)).onArgs (.cons (Le.refl _) (.cons (Le.ps _ _ rfl) .nil))
  exact bG Tryz.func122<|Kp 4 h<|Kf 0<|bh<|aW<|(o5 a d).map aJ
theorem R0(a:List PSpan)(d:Int)(ha:a.length<2^30):kP 120 [.ls (a.map aJ),iV d] (.ls ((pT a d).map aJ)):=by
  have h0:=FC a d ha
  have hl:=(sE a d).len
  have h:kP 147 [.ls ((o5 a d).map aJ),.ps [aJ ⟨d,1048577⟩] true] (.ls ((pT a d).map aJ)):=(Pp (o5 a d) [⟨d,1048577⟩] (by omega) (by simp)).onArgs (.cons (Le.refl _) (.cons (Le.ps _ _ rfl) .nil))
  exact bG Tryz.func120<|Kp 2 h0<|Kp 2 h<|Kf 0<|bh<|aW<|(pT a d).map aJ
noncomputable def qO(k:Int):Bool:=af k 7||af k 9
noncomputable def fq(k:Int):Bool:=qO k||af k 8
noncomputable def sa(k:Int):AV:=match qO k with|true=>.func (.func 120) [] []|false=>match af k 8 with|true=>.func (.func 122) [] []|false=>.nilf
theorem Aw(k:Int):eO (some .nilf) true (be false 1 [(0,1)] (iV k) [⟨iV 7,.func (.func 120) [] [],0⟩,⟨iV 9,.func (.func 120) [] [],1⟩,⟨iV 8,.func (.func 122) [] [],2⟩] 0)=some (.tuple [sa k,.bool (fq k)]):=by
  unfold sa fq qO
  simp only[be,qN,JO,kG]
  cases h1:af k 7<;>cases h2:af k 9<;>cases h3:af k 8<;>rfl
theorem PC{k:Int}(h:qO k=true):Le (.func (.func 120) [] []) (sa k):=by unfold sa;rw[h];exact Le.refl _
theorem To{k:Int}(h:qO k=false)(h2:fq k=true):Le (.func (.func 122) [] []) (sa k):=by
  unfold fq at h2;rw[h,Bool.false_or]at h2
  unfold sa;rw[h,h2];exact Le.refl _
noncomputable def PD:List AEnt:=[⟨iV 7,.func (.func 120) [] [],0⟩,⟨iV 9,.func (.func 120) [] [],1⟩,⟨iV 8,.func (.func 122) [] [],2⟩]
theorem Tm(x:PItem):kD 90 [] (ab [.row 25 false 0 [eI x]]) (.map 1) (ab [.row 25 false 0 [eI x],.map PD 3]):=by
  exact eR Tryz.func90 fun a=>Kf 6 a
theorem Tn(s:PStart)(d o:PDeed):kD 90 [] (ab [.row 3 false 0 [av s],.row 28 false 0 [aq d],.row 28 false 0 [aq o]]) (.map 3) (ab [.row 3 false 0 [av s],.row 28 false 0 [aq d],.row 28 false 0 [aq o],.map PD 3]):=by
  exact eR Tryz.func90 fun a=>Kf 6 a
noncomputable def g0(x:PItem)(a i:Int):Bool:=af x.act a&&(match af x.kind 11 with|true=>af x.item i|false=>fq x.kind&&(af x.item i||af x.item (-1)))
theorem Nt(x:PItem)(a i:Int):kP 91 [eI x,iV a,iV i] (.bool (g0 x a i)):=by
  have hlk:=Aw
  have rr0 b' (h:(g0 x a i)=b':=by unfold g0;generalize af x.act a=p1 at *;generalize af x.kind 11=p2 at *;generalize af x.item i=p3 at *;generalize af x.item (-1)=p4 at *;generalize fq x.kind=p5 at *;simp only[aS,ak,bS, *]):=h;let q:=[ax [iV x.kind,aW (x.at_.map aj),aW (x.to.map aj),iV x.where_,iV x.nth_,iV x.unit.act,iV x.unit.item,iV x.unit.n,iV x.unit.kind,aV x.unit.label,aW (x.unit.head.map aQ),aW (x.unit.words.map aQ),aW (x.unit.kids.map aY),aW (x.old.map nQ),aW (x.new.map nQ),aV x.label,aV x.for_,iV x.start.kind,iV x.start.day,aV x.start.event,iV x.act,iV x.item,iV x.day,aV x.event,aW (x.by_.map Og)]];let q1:=bx (bz 120) [] [];exact bG Tryz.func91<|Kc 5 x.act a (fun _ _=>Ky 0<|rr0 false) fun _ _=>Kj 2 x.kind 11 (fun _ _=>Kf 4<|cA<|rr0<|af x.item i) fun _ _=>M3 (.efx true (AV.map 1)<|ab [aZ 25 false 0 q,AObj.map [AEnt.mk (iV 7) q1 0,AEnt.mk (iV 9) q1 1,AEnt.mk (iV 8) (bx (bz 122) [] []) 2] 3]) (et rt ti) (et (aK<|some<|aZ 25 false 0 q) ti) (Tm x)<|K1 1 (.look<|eb [sa x.kind,eA<|fq x.kind]) (hlk x.kind)<|Kb 6 (fq x.kind) (fun b=>Kt 0 b<|Kt 0 b<|Kt 0 b<|Kt 0 b<|Kj 0 x.item i (fun c _=>Mt c<|Mt c<|Mt b<|MV c<|MV b<|Ky 0<|rr0 true) fun c _=>Kh 0 c<|Kh 0 c<|Kt 0 b<|My c<|MV b<|Kf 0<|cA<|rr0<|af x.item (-1)) fun b=>Mh b<|Mh b<|Mh b<|Mh b<|Mh b<|My b<|Ky 0<|rr0 false
noncomputable abbrev gT(nm:aR):AObj:=.row 1 false 0 [.str nm]
noncomputable def lF(nm:aR)(d:PDeed):Bool:=af d.it.kind 10&&eV d.it.event nm
theorem R6(nm:aR)(d:PDeed):kD 149 [aq d,.ptr 0 0 0 0] (ab [gT nm]) (.bool (lF nm d)) (ab [gT nm]):=by
  let q:=ab [aZ 1 false 0 [aV nm]];exact Pm Tryz.func149<|Kj 6 d.it.kind 10 (fun a _=>Kt 0 a<|Kt 0 a<|Kt 0 a<|Kt 0 a<|Ku 0 a<|K1 0 (.frz 1 [3]) (et rt ti)<|Mf<|et (by unfold lF;generalize af d.it.kind 10=p1 at *;generalize eV d.it.event nm=p2 at *;simp only[aS,ak,bS, *]:(AV.bool (eV d.it.event nm))=(AV.bool (lF nm d)))<|aK q) fun a _=>Mh a<|Mh a<|Mh a<|Mh a<|My a<|K1 0 (.frz 1 [3]) (et rt ti)<|Mf<|et (by unfold lF;generalize af d.it.kind 10=p1 at *;generalize eV d.it.event nm=p2 at *;simp only[aS,ak,bS, *]:(AV.bool false)=(AV.bool (lF nm d)))<|aK q
noncomputable def iP(nm:aR):List PDeed→Nat→Int
  |[],_=> -1
  |d::r,i=>match lF nm d with|true=>Int.ofNat i|false=>iP nm r (i+1)
theorem LS(nm:aR):∀(l:List PDeed)(i:Nat),iP nm l i<Int.ofNat (i+l.length)∧(0≤iP nm l i∨iP nm l i= -1)
  |[],i=>⟨by simp only[iP,oN];omega,.inr rfl⟩
  | d::r,i=>by
    have:=LS nm r (i+1)
    cases h:lF nm d<;>simp only[iP,h,oN,lC]at * <;>omega
theorem Wh{nm:aR}{d:PDeed}{r:List PDeed}{i:Nat}(h:lF nm d=true):iP nm (d::r) i=Int.ofNat i:=by simp only[iP,h]
theorem Wi{nm:aR}{d:PDeed}{r:List PDeed}{i:Nat}(h:lF nm d=false):iP nm (d::r) i=iP nm r (i+1):=by simp only[iP,h]
theorem DK(nm:aR)(l:List PDeed)(hl:l.length<2^40):kD 148 [.ls (l.map aq),.func (.func 149) [] [.ptr 0 0 0 0]] (ab [gT nm]) (iV (iP nm l 0)) (ab [gT nm]):=by
  let q:=ab [aZ 1 false 0 [aV nm]];exact Pm Tryz.func148<|Kl 2 7 (ln aq l)<|Mg 0<|tu aq l [0,1,7,8] (fun a _=>([aW<|l.map aq,bx (bz 149) [] [bj 0 0 0 0],nV l.length,nV a],[aZ 1 false 0 [aV nm]])) (fun a=>iP nm l (0:Nat)=iP nm a (l.length-a.length)) (by(rw[Nat.sub_self])) (fun _ _ _ _ _ a b=>Kh 0 a<|Kf 0<|et (by(rw[b];rfl):(iV (-1))=(iV (iP nm l 0)))<|aK q) fun a _ b _ c d e f g _ h i=>have:=gV b f;Kt 0 g<|Kx 4 h<|Ke 0 (R6 nm c)<|Mb (lF nm c) (fun _=>Kf 1<|et (by(rw[i,Wh (by assumption)];congr 2;have z:=JQ (b.trans f) (by simp) (by simp only[lC];omega:(l.length-(d.length+1))+(c::d).length=l.length);exact z):(nV a)=(iV (iP nm l 0)))<|aK q) fun _=>Kl 0 18 (dV a)<|Kf 0<|e<|by(rw[i,Wi (by assumption)];congr 1;have:=gV b f;simp only[lC];omega)
theorem R3(d:Int):kP 120 [.nils,iV d] (.ls ((pT [] d).map aJ)):=(R0 [] d (by simp)).onArgs (.cons Le.nils (.cons (Le.refl _) .nil))
theorem JM(nm:aR)(l:List PDeed)(hl:l.length<2^40)(h:aF (iP nm l 0) 0=true):kP 121 [.str nm,.ls (l.map aq)] (.tuple [iV 0,.bool false]):=by
  exact bG Tryz.func121<|Ke 4 (DK nm l hl)<|Kt 2 h<|Kf 1<|bh<|eb [iV 0,eA false]
theorem JN(nm:aR)(l:List PDeed)(hl:l.length<2^40)(h:aF (iP nm l 0) 0=false):kP 121 [.str nm,.ls (l.map aq)] (.tuple [iV (gD l (iP nm l 0).toNat).it.day,.bool true]):=by
  have g1:=aG h
  have g2:=(LS nm l 0).1
  exact bG Tryz.func121<|Ke 4 (DK nm l hl)<|Kh 2 h<|Kl 1 13 (BD (x:=iP nm l 0) oA)<|Mx (bY aq (by(simp only[oN,lM,lS]at *;omega):(iP nm l 0).toNat<(l).length))<|Kf 4<|bh<|eb [iV (gD l (iP nm l 0).toNat).it.day,eA true]
noncomputable def jc(s:PStart)(l:List PDeed):List PSpan:=match af s.kind 1 with|true=>pT [] s.day|false=>match af s.kind 3 with|true=>(match aF (iP s.event l 0) 0 with|true=>[]|false=>pT [] (gD l (iP s.event l 0).toNat).it.day)|false=>[]
theorem OX(s:PStart)(l:List PDeed)(hl:l.length<2^40)(hi:aF (iP s.event l 0) 0=true):kP 88 [av s,.ls (l.map aq)] (.ls ((jc s l).map aJ)):=by
  have he:=JM s.event l hl hi
  have e:jc s l=match af s.kind 1 with|true=>pT [] s.day|false=>[]:=(by unfold jc;rw[hi];cases af s.kind 1<;>cases af s.kind 3<;>rfl)
  rw[e]
  have rr0 b' (h:((match af s.kind 1 with|true=>pT [] s.day|false=>[]).map aJ)=b':=by generalize af s.kind 1=p1 at *;(rw[h0]);try rfl):=h;exact bG Tryz.func88<|Kj 5 s.kind 1 (fun h0 _=>Kp 1 (R3 s.day)<|Kf 0<|cQ<|rr0<|(pT [] s.day).map aJ) fun h0 _=>Kj 1 s.kind 3 (fun _ _=>Kp 2 he<|Kf 7 (Le.lsn<|rr0 []:Le _ (al))) fun _ _=>Kf 0 (Le.lsn<|rr0 []:Le _ (al))
theorem OW(s:PStart)(l:List PDeed)(hl:l.length<2^40)(hi:aF (iP s.event l 0) 0=false):kP 88 [av s,.ls (l.map aq)] (.ls ((jc s l).map aJ)):=by
  have he:=JN s.event l hl hi
  have e:jc s l=match af s.kind 1 with|true=>pT [] s.day|false=>match af s.kind 3 with|true=>pT [] (gD l (iP s.event l 0).toNat).it.day |false=>[]:=(by unfold jc;rw[hi])
  rw[e]
  have rr0 b' (h:((match af s.kind 1 with|true=>pT [] s.day|false=>match af s.kind 3 with|true=>pT [] (gD l (iP s.event l 0).toNat).it.day |false=>[]).map aJ)=b':=by generalize af s.kind 1=p1 at *;generalize af s.kind 3=p3 at *;(rw[h0]);(first|rw[h1]|skip);try rfl):=h;exact bG Tryz.func88<|Kj 5 s.kind 1 (fun h0 _=>Kp 1 (R3 s.day)<|Kf 0<|cQ<|rr0<|(pT [] s.day).map aJ) fun h0 _=>Kj 1 s.kind 3 (fun h1 _=>Kp 2 he<|Kp 7 (R3 (gD l (iP s.event l 0).toNat).it.day)<|Kf 0<|cQ<|rr0<|(pT [] (gD l (iP s.event l 0).toNat).it.day).map aJ) fun h1 _=>Kf 0 (Le.lsn<|rr0 []:Le _ (al))
theorem Jp(s:PStart)(l:List PDeed)(hl:l.length<2^40):kP 88 [av s,.ls (l.map aq)] (.ls ((jc s l).map aJ)):=by
  cases hi:aF (iP s.event l 0) 0
  · exact OW s l hl hi
  · exact OX s l hl hi
noncomputable def nL(d o:PDeed)(days:List PSpan):List PSpan:=match fq o.it.kind&&g0 o.it d.act d.item with|true=>(match qO o.it.kind with|true=>pT days o.it.day|false=>o5 days o.it.day)|false=>days
noncomputable def iI(d:PDeed):List PDeed→List PSpan→List PSpan
  |[],days=>days
  |o::r,days=>iI d r (nL d o days)
noncomputable def ao(s:PStart)(d:PDeed)(l:List PDeed):List PSpan:=match aF d.it.kind 0||aF 6 d.it.kind with|true=>[]|false=>iI d l (jc (effS s d.it.start) l)
theorem OJ(s:PStart)(l:List PDeed):(jc s l).length≤1048577:=by
  have h:=fun d=>(uI [] d).len
  unfold jc
  cases af s.kind 1<;>cases af s.kind 3<;>cases aF (iP s.event l 0) 0<;>simp only[lN]<;>first|exact h _|omega
theorem gy(s:PStart)(d:PDeed)(l:List PDeed)(hl:l.length<2^40):kP 70 [av s,aq d,.ls (l.map aq)] (.ls ((ao s d l).map aJ)):=by
  have hlk:=Aw
  have hle1:∀k,qO k=true→Le (.func (.func 120) [] []) (sa k):=fun k h=>PC h
  have hle2:∀k,qO k=false→fq k=true→Le (.func (.func 122) [] []) (sa k):=fun k h h2=>To h h2
  have hil:=OJ (effS s d.it.start) l
  have hin:∀b,(aF d.it.kind 0||aF 6 d.it.kind)=b→ao s d l=match b with|true=>[]|false=>iI d l (jc (effS s d.it.start) l):=fun b h=>by unfold ao;rw[h]
  have hst:∀(o:PDeed)(r:List PDeed)(days:List PSpan),iI d (o::r) days=iI d r (nL d o days):=fun o r days=>rfl
  have rr0 b' (h:((ao s d l).map aJ)=b':=by first|(rw[hin true (by simp only[aS,ak,bS, *];try rfl)];rfl)|(rw[hin false (by simp only[aS,ak,bS, *];try rfl)];first|exact congrArg _ hj0.2|exact congrArg _ hj0.2.symm|(rw[hj0.2];rfl))):=h;let q1:=[ax [iV d.act,iV d.item,iV d.day,iV d.it.kind,aW (d.it.at_.map aj),aW (d.it.to.map aj),iV d.it.where_,iV d.it.nth_,iV d.it.unit.act,iV d.it.unit.item,iV d.it.unit.n,iV d.it.unit.kind,aV d.it.unit.label,aW (d.it.unit.head.map aQ),aW (d.it.unit.words.map aQ),aW (d.it.unit.kids.map aY),aW (d.it.old.map nQ),aW (d.it.new.map nQ),aV d.it.label,aV d.it.for_,iV d.it.start.kind,iV d.it.start.day,aV d.it.start.event,iV d.it.act,iV d.it.item,iV d.it.day,aV d.it.event,aW (d.it.by_.map Og)]];let q2:=[ax [iV s.kind,iV s.day,aV s.event]];let q3:=bx (bz 120) [] [];exact bG Tryz.func70<|Ka 7 d.it.kind 0 (fun a _=>Mt a<|Mt a<|Mt a<|MV a<|Kf 1 (Le.lsn<|rr0 []:Le _ (al))) fun a _=>Kh 0 a<|Kh 0 a<|Kh 0 a<|Kw 0 a<|Mb (aF 6 d.it.kind) (fun a=>have:=ar a;Kf 0 (Le.lsn<|rr0 []:Le _ (al))) fun a=>have:=aG a;Kp 3 (HI s d.it.start)<|Kp 0 (Jp (effS s d.it.start) l hl)<|Kl 2 30 (ln aq l)<|Mg 0<|WX (0:Nat) l (jc (effS s d.it.start) l) [4,7,29,30,31] (fun a _ c=>([bj 1 0 0 0,aW<|c.map aJ,aW<|l.map aq,nV l.length,nV a],[aZ 3 false 0 [ax [iV s.kind,iV s.day,aV s.event]],aZ 28 false 0 [ax [iV d.act,iV d.item,iV d.day,iV d.it.kind,aW<|d.it.at_.map aj,aW<|d.it.to.map aj,iV d.it.where_,iV d.it.nth_,iV d.it.unit.act,iV d.it.unit.item,iV d.it.unit.n,iV d.it.unit.kind,aV d.it.unit.label,aW<|d.it.unit.head.map aQ,aW<|d.it.unit.words.map aQ,aW<|d.it.unit.kids.map aY,aW<|d.it.old.map nQ,aW<|d.it.new.map nQ,aV d.it.label,aV d.it.for_,iV d.it.start.kind,iV d.it.start.day,aV d.it.start.event,iV d.it.act,iV d.it.item,iV d.it.day,aV d.it.event,aW<|d.it.by_.map Og]]])) (fun a c e=>(l).drop a=c∧e.length≤1048577∧iI d l (jc (effS s d.it.start) l)=iI d c e) (fun _ a _=>a.length) (et rfl<|by(exact⟨hil,rfl⟩)) fun a c e f g=>Mc c (fun a=>have c:=eN f.1 a;have hj0:=gu (J:=fun a c=>c.length≤1048577∧iI d l (jc (effS s d.it.start) l)=iI d a c) (a:=e) a f.2;Kh 0 c<|Kf 1<|cQ<|rr0<|e.map aJ) fun c i j=>let m:=[ax [iV c.act,iV c.item,iV c.day,iV c.it.kind,aW<|c.it.at_.map aj,aW<|c.it.to.map aj,iV c.it.where_,iV c.it.nth_,iV c.it.unit.act,iV c.it.unit.item,iV c.it.unit.n,iV c.it.unit.kind,aV c.it.unit.label,aW<|c.it.unit.head.map aQ,aW<|c.it.unit.words.map aQ,aW<|c.it.unit.kids.map aY,aW<|c.it.old.map nQ,aW<|c.it.new.map nQ,aV c.it.label,aV c.it.for_,iV c.it.start.kind,iV c.it.start.day,aV c.it.start.event,iV c.it.act,iV c.it.item,iV c.it.day,aV c.it.event,aW<|c.it.by_.map Og]];have n:=fY f.1 j;have:=ar n;have p:=eM (enc:=aq) f.1 j;have hj0:=cj (J:=fun a c=>c.length≤1048577∧iI d l (jc (effS s d.it.start) l)=iI d a c) (a:=e) j f.2;Kt 0 n<|Mx p<|Mg 2<|M3 (.efx true (AV.map 3)<|ab [aZ 3 false 0 q2,aZ 28 false 0 q1,aZ 28 false 0 m,AObj.map [AEnt.mk (iV 7) q3 0,AEnt.mk (iV 9) q3 1,AEnt.mk (iV 8) (bx (bz 122) [] []) 2] 3]) (jd rt rt rt ti) (jd (aK<|some<|aZ 28 false 0 m) (aK<|some<|aZ 28 false 0 q1) (aK<|some<|aZ 3 false 0 q2) ti) (Tn s d c)<|K1 2 (.look<|eb [sa c.it.kind,eA<|fq c.it.kind]) (hlk c.it.kind)<|Kb 6 (fq c.it.kind) (fun m=>Kt 0 m<|Kt 0 m<|Kt 0 m<|Kt 0 m<|Kt 0 m<|Kt 0 m<|Mp (Nt c.it d.act d.item)<|MV m<|Mb (g0 c.it d.act d.item) (fun _=>Ks 4 (qO c.it.kind) (fun m=>Ml 53 (hle1 c.it.kind m)<|Mp (R0 e c.it.day oA)<|Kl 1 59 (dV a)<|K1 0 (.frz 2 [4,7,29,30,31]) (ca rt rt ti)<|Mf<|g (a+1) i (pT e c.it.day) (et (bW f.1 j)<|by exact⟨(uI _ _).len,by rw[hj0.2,hst];simp only[nL, *];rfl⟩)<|dK j) fun n=>Ml 53 (hle2 c.it.kind n m)<|Mp (FC e c.it.day oA)<|Kl 1 59 (dV a)<|K1 0 (.frz 2 [4,7,29,30,31]) (ca rt rt ti)<|Mf<|g (a+1) i (o5 e c.it.day) (et (bW f.1 j)<|by exact⟨(sE _ _).len,by rw[hj0.2,hst];simp only[nL, *];rfl⟩)<|dK j) fun _=>Kl 0 59 (dV a)<|K1 0 (.frz 2 [4,7,29,30,31]) (ca rt rt ti)<|Mf<|g (a+1) i e (et (bW f.1 j)<|by exact⟨hj0.1,by rw[hj0.2,hst];simp only[nL,aS,ak,bS, *];try rfl⟩)<|dK j) fun c=>Mh c<|Mh c<|Mh c<|Mh c<|Mh c<|Mh c<|My c<|Kl 1 59 (dV a)<|K1 0 (.frz 2 [4,7,29,30,31]) (ca rt rt ti)<|Mf<|g (a+1) i e (et (bW f.1 j)<|by exact⟨hj0.1,by rw[hj0.2,hst];simp only[nL,aS,ak,bS, *];try rfl⟩)<|dK j
noncomputable abbrev jQ(d:Int):AObj:=.row 1 false 0 [iV d]
noncomputable abbrev qF:AObj:=.row 1 false 0 [.nils]
noncomputable abbrev qZ(i ep n:Nat):AObj:=.row 1 false 0 [.slice i ep 0 n none]
noncomputable abbrev bo(m:List (Int×PStart)):AObj:=.map (ba av m 0) m.length
noncomputable abbrev da(d:PDeed):AObj:=.row 28 false 0 [aq d]
noncomputable abbrev pR(ep:Nat)(l:List PDeed):AObj:=.row 28 true ep (l.map aq)
def dF:PStart:=⟨0,0,[]⟩
def aA(m:List (Int×PStart))(k:Int):PStart:=(fx k m).getD dF
theorem pw(m:List (Int×PStart))(k:Int):eO (some (.agg [iV 0,iV 0,.str []])) false (be false 1 [(0,1)] (iV k) (ba av m 0) 0)=some (av (aA m k)):=by
  rw[Ay]
  cases h:fx k m<;>simp only[aA,h,Option.getD]<;>rfl
theorem rh(m:List (Int×PStart))(a:PAct):sY (ba av m 0) m.length (iV a.number) (.agg [iV a.start.kind,iV a.start.day,.str a.start.event]) (be false 1 [(0,1)] (iV a.number) (ba av m 0) 0)=some (ba av (gr a.number a.start m) 0,(gr a.number a.start m).length):=Ci (f:=av) a.number a.start m
/-- The starts of the acts by their numbers. -/
def jP(l:List PAct)(m:List (Int×PStart)):List (Int×PStart):=l.foldl (fun m a=>gr a.number a.start m) m
theorem j7(s:PStart)(d:PDeed)(l:List PDeed):NrmS (ao s d l):=by
  have h1:∀(s:PStart),NrmS (jc s l):=fun s=>by
    unfold jc
    cases af s.kind 1<;>cases af s.kind 3<;>cases aF (iP s.event l 0) 0<;>first|exact yl|exact uI _ _
  have h2:∀(r:List PDeed)(days:List PSpan),NrmS days→NrmS (iI d r days):=by
    intro r
    induction r with
    |nil=>intro days h;exact h
    | cons o r ih=>
      intro days h
      refine ih _ ?_
      unfold nL
      cases fq o.it.kind&&g0 o.it d.act d.item<;>cases qO o.it.kind<;>first|exact h|exact uI _ _|exact sE _ _
  unfold ao
  cases aF d.it.kind 0||aF 6 d.it.kind
  · exact h2 l _ (h1 _)
  · exact yl
theorem tq(s:PStart)(d:PDeed)(l:List PDeed)(day:Int):kP 49 [.ls ((ao s d l).map aJ),iV day] (.bool (iZ (ao s d l) day)):=by
  have hn:=j7 s d l
  have h:=H2 (ao s d l) day (ny hn.len (by decide))
  rwa[show fg (ao s d l)=ao s d l from(Ln hn).symm]at h
/-- Whether an amendment is told: its purpose, its days. -/
noncomputable def XI(p:aR)(d:PDeed):Bool:=eV d.it.for_ []||eV d.it.for_ p
noncomputable def s5(day:Int)(p:aR)(m:List (Int×PStart))(ds:List PDeed)(d:PDeed):Bool:=XI p d&&iZ (ao (aA m d.act) d ds) day
noncomputable def qC(day:Int)(p:aR)(m:List (Int×PStart))(ds l:List PDeed):List PDeed:=l.filter fun d=>bd d.it.kind&&s5 day p m ds d
theorem aaA(d:PDeed)(ss:List PSpan)(day:Int)(p:aR)(m:List (Int×PStart))(hc:kP 49 [.ls (ss.map aJ),iV day] (.bool false)):kD 48 [aq d,.ls (ss.map aJ),.ptr 1 0 0 0,.ptr 0 0 0 0,.ptr 2 0 0 0] (ab [jQ day,gT p,qF,bo m,da d]) (.tuple []) (ab [jQ day,gT p,qF,bo m,da d]):=by
  exact eR Tryz.func48 fun a=>Kb 5 (eV d.it.for_ (ByteArray.mk #[]).data.toList) (fun b=>Mt b<|Mt b<|Mt b<|Mt b<|MV b<|Kp 2 hc<|K1 1 (.frz 5 []) (yC rt (tM m.length 5<|ah (f:=av) (fun _=>rfl) m 0) rt rt rt ti)<|Mf a) fun b=>Kh 0 b<|Kh 0 b<|Kh 0 b<|Kh 0 b<|Kw 0 b<|Kb 0 (eV d.it.for_ p) (fun b=>Kt 0 b<|Kt 0 b<|Mp hc<|MV b<|K1 0 (.frz 5 []) (yC rt (tM m.length 5<|ah (f:=av) (fun _=>rfl) m 0) rt rt rt ti)<|Mf a) fun b=>Mh b<|Mh b<|My b<|K1 0 (.frz 5 []) (yC rt (tM m.length 5<|ah (f:=av) (fun _=>rfl) m 0) rt rt rt ti)<|Mf a
theorem aaz(d:PDeed)(ss:List PSpan)(day:Int)(p:aR)(m:List (Int×PStart))(h1:eV d.it.for_ []=false)(h2:eV d.it.for_ p=false):kD 48 [aq d,.ls (ss.map aJ),.ptr 1 0 0 0,.ptr 0 0 0 0,.ptr 2 0 0 0] (ab [jQ day,gT p,qF,bo m,da d]) (.tuple []) (ab [jQ day,gT p,qF,bo m,da d]):=by
  exact eR Tryz.func48 fun a=>Kh 5 h1<|Kh 0 h1<|Kh 0 h1<|Kh 0 h1<|Kh 0 h1<|Kw 0 h1<|Kh 0 h2<|Mh h2<|Mh h2<|My h2<|K1 0 (.frz 5 []) (yC rt (tM m.length 5<|ah (f:=av) (fun _=>rfl) m 0) rt rt rt ti)<|Mf a
theorem aay(d:PDeed)(ss:List PSpan)(day:Int)(p:aR)(m:List (Int×PStart))(hc:kP 49 [.ls (ss.map aJ),iV day] (.bool true))(h1:eV d.it.for_ []=true):kD 48 [aq d,.ls (ss.map aJ),.ptr 1 0 0 0,.ptr 0 0 0 0,.ptr 2 0 0 0] (ab [jQ day,gT p,qF,bo m,da d]) (.tuple []) (ab [jQ day,gT p,qZ 5 0 1,bo m,da d,pR 0 [d]]):=by
  exact eR Tryz.func48 fun a=>Kt 5 h1<|Mt h1<|Mt h1<|Mt h1<|Mt h1<|MV h1<|Kp 2 hc<|K1 6 (.ren [0,1,2,3,4,6,5] [3] []) (tN m.length<|ah (f:=av) (fun _=>rfl) m 0)<|M1 (.frz 6 []) (Oc rt rt (tM m.length 6<|ah (f:=av) (fun _=>rfl) m 0) rt rt rt ti)<|Mf a
theorem aax(d:PDeed)(ss:List PSpan)(day:Int)(p:aR)(m:List (Int×PStart))(hc:kP 49 [.ls (ss.map aJ),iV day] (.bool true))(h1:eV d.it.for_ []=false)(h2:eV d.it.for_ p=true):kD 48 [aq d,.ls (ss.map aJ),.ptr 1 0 0 0,.ptr 0 0 0 0,.ptr 2 0 0 0] (ab [jQ day,gT p,qF,bo m,da d]) (.tuple []) (ab [jQ day,gT p,qZ 5 0 1,bo m,da d,pR 0 [d]]):=by
  exact eR Tryz.func48 fun a=>Kh 5 h1<|Kh 0 h1<|Kh 0 h1<|Kh 0 h1<|Kh 0 h1<|Kw 0 h1<|Kt 0 h2<|Kt 0 h2<|Kt 0 h2<|Mp hc<|MV h2<|K1 5 (.ren [0,1,2,3,4,6,5] [3] []) (tN m.length<|ah (f:=av) (fun _=>rfl) m 0)<|M1 (.frz 6 []) (Oc rt rt (tM m.length 6<|ah (f:=av) (fun _=>rfl) m 0) rt rt rt ti)<|Mf a
theorem aaw(d:PDeed)(ss:List PSpan)(day:Int)(p:aR)(m:List (Int×PStart))(ep n:Nat)(out:List PDeed)(hc:kP 49 [.ls (ss.map aJ),iV day] (.bool false)):kD 48 [aq d,.ls (ss.map aJ),.ptr 1 0 0 0,.ptr 0 0 0 0,.ptr 2 0 0 0] (ab [jQ day,gT p,qZ 4 ep n,bo m,pR ep out,da d]) (.tuple []) (ab [jQ day,gT p,qZ 4 ep n,bo m,pR ep out,da d]):=by
  exact eR Tryz.func48 fun a=>Kb 5 (eV d.it.for_ (ByteArray.mk #[]).data.toList) (fun b=>Mt b<|Mt b<|Mt b<|Mt b<|MV b<|Kp 2 hc<|K1 1 (.frz 6 []) (Oc rt (tR 28 true ep 6<|aX xp out) (tM m.length 6<|ah (f:=av) (fun _=>rfl) m 0) rt rt rt ti)<|Mf a) fun b=>Kh 0 b<|Kh 0 b<|Kh 0 b<|Kh 0 b<|Kw 0 b<|Kb 0 (eV d.it.for_ p) (fun b=>Kt 0 b<|Kt 0 b<|Mp hc<|MV b<|K1 0 (.frz 6 []) (Oc rt (tR 28 true ep 6<|aX xp out) (tM m.length 6<|ah (f:=av) (fun _=>rfl) m 0) rt rt rt ti)<|Mf a) fun b=>Mh b<|Mh b<|My b<|K1 0 (.frz 6 []) (Oc rt (tR 28 true ep 6<|aX xp out) (tM m.length 6<|ah (f:=av) (fun _=>rfl) m 0) rt rt rt ti)<|Mf a
theorem aav(d:PDeed)(ss:List PSpan)(day:Int)(p:aR)(m:List (Int×PStart))(ep n:Nat)(out:List PDeed)(h1:eV d.it.for_ []=false)(h2:eV d.it.for_ p=false):kD 48 [aq d,.ls (ss.map aJ),.ptr 1 0 0 0,.ptr 0 0 0 0,.ptr 2 0 0 0] (ab [jQ day,gT p,qZ 4 ep n,bo m,pR ep out,da d]) (.tuple []) (ab [jQ day,gT p,qZ 4 ep n,bo m,pR ep out,da d]):=by
  exact eR Tryz.func48 fun a=>Kh 5 h1<|Kh 0 h1<|Kh 0 h1<|Kh 0 h1<|Kh 0 h1<|Kw 0 h1<|Kh 0 h2<|Mh h2<|Mh h2<|My h2<|K1 0 (.frz 6 []) (Oc rt (tR 28 true ep 6<|aX xp out) (tM m.length 6<|ah (f:=av) (fun _=>rfl) m 0) rt rt rt ti)<|Mf a
theorem aau(d:PDeed)(ss:List PSpan)(day:Int)(p:aR)(m:List (Int×PStart))(ep n:Nat)(out:List PDeed)(hn:n=out.length)(hn2:n<2^20)(hc:kP 49 [.ls (ss.map aJ),iV day] (.bool true))(h1:eV d.it.for_ []=true):kD 48 [aq d,.ls (ss.map aJ),.ptr 1 0 0 0,.ptr 0 0 0 0,.ptr 2 0 0 0] (ab [jQ day,gT p,qZ 4 ep n,bo m,pR ep out,da d]) (.tuple []) (ab [jQ day,gT p,qZ 4 (ep+1) (n+1),bo m,pR (ep+1) (out++[d]),da d]):=by
  exact eR Tryz.func48 fun a=>Kt 5 h1<|Mt h1<|Mt h1<|Mt h1<|Mt h1<|MV h1<|Kp 2 hc<|K1 4 .app (ca (aK ep) (by(rw[lM];exact hn):n=(out.map aq).length) (by exact cC (m:=2^21) (by omega) (by decide) (by decide):small (n+1) 392=true))<|M1 (.obj 4<|aZ 28 true (ep+1)<|(out++[d]).map aq) (congrArg (aZ 28 true<|ep+1)<|dZ (f:=aq) (l:=out) (ws:=[d]))<|K1 0 (.frz 6 []) (Oc rt (tR 28 true (ep+1) 6<|aX xp<|out++[d]) (tM m.length 6<|ah (f:=av) (fun _=>rfl) m 0) rt rt rt ti)<|Mf a
theorem aat(d:PDeed)(ss:List PSpan)(day:Int)(p:aR)(m:List (Int×PStart))(ep n:Nat)(out:List PDeed)(hn:n=out.length)(hn2:n<2^20)(hc:kP 49 [.ls (ss.map aJ),iV day] (.bool true))(h1:eV d.it.for_ []=false)(h2:eV d.it.for_ p=true):kD 48 [aq d,.ls (ss.map aJ),.ptr 1 0 0 0,.ptr 0 0 0 0,.ptr 2 0 0 0] (ab [jQ day,gT p,qZ 4 ep n,bo m,pR ep out,da d]) (.tuple []) (ab [jQ day,gT p,qZ 4 (ep+1) (n+1),bo m,pR (ep+1) (out++[d]),da d]):=by
  exact eR Tryz.func48 fun a=>Kh 5 h1<|Kh 0 h1<|Kh 0 h1<|Kh 0 h1<|Kh 0 h1<|Kw 0 h1<|Kt 0 h2<|Kt 0 h2<|Kt 0 h2<|Mp hc<|MV h2<|K1 3 .app (ca (aK ep) (by(rw[lM];exact hn):n=(out.map aq).length) (by exact cC (m:=2^21) (by omega) (by decide) (by decide):small (n+1) 392=true))<|M1 (.obj 4<|aZ 28 true (ep+1)<|(out++[d]).map aq) (congrArg (aZ 28 true<|ep+1)<|dZ (f:=aq) (l:=out) (ws:=[d]))<|K1 0 (.frz 6 []) (Oc rt (tR 28 true (ep+1) 6<|aX xp<|out++[d]) (tM m.length 6<|ah (f:=av) (fun _=>rfl) m 0) rt rt rt ti)<|Mf a
theorem Wv{day:Int}{p:aR}{m:List (Int×PStart)}{ds:List PDeed}{d:PDeed}(h:s5 day p m ds d=false):kP 49 [.ls ((ao (aA m d.act) d ds).map aJ),iV day] (.bool false)∨(eV d.it.for_ []=false∧eV d.it.for_ p=false):=by
  unfold s5 XI at h
  have hz:=tq (aA m d.act) d ds day
  cases q:iZ (ao (aA m d.act) d ds) day with
  |false=>rw[q]at hz;exact .inl hz
  |true=>rw[q,Bool.and_true,wC]at h;exact .inr h
theorem Qf{day:Int}{p:aR}{m:List (Int×PStart)}{ds:List PDeed}{d:PDeed}(h:s5 day p m ds d=true):kP 49 [.ls ((ao (aA m d.act) d ds).map aJ),iV day] (.bool true)∧(eV d.it.for_ []=true∨(eV d.it.for_ []=false∧eV d.it.for_ p=true)):=by
  unfold s5 XI at h
  obtain⟨h1,h2⟩:=jM.1 h
  have hz:=tq (aA m d.act) d ds day
  rw[h2]at hz
  refine⟨hz,?_⟩
  cases q:eV d.it.for_ []with
  |true=>exact .inl rfl
  |false=>rw[q,Bool.false_or]at h1;exact .inr ⟨rfl,h1⟩
theorem Y6(day:Int)(p:aR)(m:List (Int×PStart))(ds:List PDeed)(d:PDeed)(hb:s5 day p m ds d=false):kD 48 [aq d,.ls ((ao (aA m d.act) d ds).map aJ),.ptr 1 0 0 0,.ptr 0 0 0 0,.ptr 2 0 0 0] (ab [jQ day,gT p,qF,bo m,da d]) (.tuple []) (ab [jQ day,gT p,qF,bo m,da d]):=by
  rcases Wv hb with h|⟨h1,h2⟩
  · exact aaA d _ day p m h
  · exact aaz d _ day p m h1 h2
theorem aaE(day:Int)(p:aR)(m:List (Int×PStart))(ds:List PDeed)(d:PDeed)(hb:By (s5 day p m ds d) false):kD 48 [aq d,.ls ((ao (aA m d.act) d ds).map aJ),.ptr 1 0 0 0,.ptr 0 0 0 0,.ptr 2 0 0 0] (ab [jQ day,gT p,qF,bo m,da d]) (.tuple []) (ab [jQ day,gT p,qF,bo m,da d]):=Y6 day p m ds d hb
theorem aaD(day:Int)(p:aR)(m:List (Int×PStart))(ds:List PDeed)(d:PDeed)(hb:By (s5 day p m ds d) true):kD 48 [aq d,.ls ((ao (aA m d.act) d ds).map aJ),.ptr 1 0 0 0,.ptr 0 0 0 0,.ptr 2 0 0 0] (ab [jQ day,gT p,qF,bo m,da d]) (.tuple []) (ab [jQ day,gT p,qZ 5 0 1,bo m,da d,pR 0 [d]]):=by
  obtain⟨h,h1|⟨h1,h2⟩⟩:=Qf hb
  · exact aay d _ day p m h h1
  · exact aax d _ day p m h h1 h2
theorem aaC(day:Int)(p:aR)(m:List (Int×PStart))(ds:List PDeed)(d:PDeed)(ep n:Nat)(out:List PDeed)(hb:By (s5 day p m ds d) false):kD 48 [aq d,.ls ((ao (aA m d.act) d ds).map aJ),.ptr 1 0 0 0,.ptr 0 0 0 0,.ptr 2 0 0 0] (ab [jQ day,gT p,qZ 4 ep n,bo m,pR ep out,da d]) (.tuple []) (ab [jQ day,gT p,qZ 4 ep n,bo m,pR ep out,da d]):=by
  rcases Wv hb with h|⟨h1,h2⟩
  · exact aaw d _ day p m ep n out h
  · exact aav d _ day p m ep n out h1 h2
theorem aaB(day:Int)(p:aR)(m:List (Int×PStart))(ds:List PDeed)(d:PDeed)(ep n:Nat)(out:List PDeed)(hb:By (s5 day p m ds d) true)(hn:n=out.length)(hn2:n<2^20):kD 48 [aq d,.ls ((ao (aA m d.act) d ds).map aJ),.ptr 1 0 0 0,.ptr 0 0 0 0,.ptr 2 0 0 0] (ab [jQ day,gT p,qZ 4 ep n,bo m,pR ep out,da d]) (.tuple []) (ab [jQ day,gT p,qZ 4 (ep+1) (n+1),bo m,pR (ep+1) (out++[d]),da d]):=by
  obtain⟨h,h1|⟨h1,h2⟩⟩:=Qf hb
  · exact aau d _ day p m ep n out hn hn2 h h1
  · exact aat d _ day p m ep n out hn hn2 h h1 h2
theorem Gv{day:Int}{p:aR}{m:List (Int×PStart)}{ds r:List PDeed}{d:PDeed}(h:bd d.it.kind=false):qC day p m ds (d::r)=qC day p m ds r:=by simp only[qC,qU,h,wt];rfl
theorem CN{day:Int}{p:aR}{m:List (Int×PStart)}{ds r:List PDeed}{d:PDeed}(h:s5 day p m ds d=false):qC day p m ds (d::r)=qC day p m ds r:=by simp only[qC,qU,h,tD];rfl
theorem Gw{day:Int}{p:aR}{m:List (Int×PStart)}{ds r:List PDeed}{d:PDeed}(h:bd d.it.kind=true)(h2:s5 day p m ds d=true):qC day p m ds (d::r)=d::qC day p m ds r:=by simp only[qC,qU,h,h2];rfl
structure OnA(day:Int)(p:aR)(m:List (Int×PStart))(ds r:List PDeed):Prop where
  f:qC day p m ds ds=qC day p m ds r
structure OnR(day:Int)(p:aR)(m:List (Int×PStart))(ds r:List PDeed)(ep n:Nat)(out:List PDeed):Prop where
  len:n=out.length
  ep:ep+1=out.length
  small:out.length+r.length≤ds.length
  f:qC day p m ds ds=out++qC day p m ds r
theorem OnA.no{day:Int}{p:aR}{m:List (Int×PStart)}{ds r:List PDeed}{d:PDeed}(h:OnA day p m ds (d::r))(ha:bd d.it.kind=false):OnA day p m ds r:=⟨by rw[h.f,Gv ha]⟩
theorem OnA.nil{day:Int}{p:aR}{m:List (Int×PStart)}{ds r:List PDeed}{d:PDeed}(h:OnA day p m ds (d::r))(hb:s5 day p m ds d=false):OnA day p m ds r:=⟨by rw[h.f,CN hb]⟩
theorem OnA.new{day:Int}{p:aR}{m:List (Int×PStart)}{ds r:List PDeed}{d:PDeed}{n:Nat}(h:OnA day p m ds (d::r))(hl:(d::r).length≤ds.length)(ha:bd d.it.kind=true)(hb:s5 day p m ds d=true)(hn:n=1):OnR day p m ds r 0 n [d]:=⟨hn,rfl,by simp only[lC,lN]at *;omega,by rw[h.f,Gw ha hb];rfl⟩
theorem OnR.no{day:Int}{p:aR}{m:List (Int×PStart)}{ds r:List PDeed}{d:PDeed}{ep n:Nat}{out:List PDeed}(h:OnR day p m ds (d::r) ep n out)(ha:bd d.it.kind=false):OnR day p m ds r ep n out:=⟨h.len,h.ep,by have:=h.small;simp only[lC]at this;omega,by rw[h.f,Gv ha]⟩
theorem OnR.nil{day:Int}{p:aR}{m:List (Int×PStart)}{ds r:List PDeed}{d:PDeed}{ep n:Nat}{out:List PDeed}(h:OnR day p m ds (d::r) ep n out)(hb:s5 day p m ds d=false):OnR day p m ds r ep n out:=⟨h.len,h.ep,by have:=h.small;simp only[lC]at this;omega,by rw[h.f,CN hb]⟩
theorem OnR.new{day:Int}{p:aR}{m:List (Int×PStart)}{ds r:List PDeed}{d:PDeed}{ep n k:Nat}{out:List PDeed}(h:OnR day p m ds (d::r) ep n out)(ha:bd d.it.kind=true)(hb:s5 day p m ds d=true)(hk:k=n+1):OnR day p m ds r (ep+1) k (out++[d]):=by
  have:=h.len;have:=h.ep;have:=h.small
  refine⟨?_,?_,?_,by rw[h.f,Gw ha hb,mB];rfl⟩<;>simp only[lA,lC,lN]at * <;>omega
theorem OnR.done{day:Int}{p:aR}{m:List (Int×PStart)}{ds:List PDeed}{ep n:Nat}{out:List PDeed}(h:OnR day p m ds [] ep n out):ep=(qC day p m ds ds).length -1∧n=(qC day p m ds ds).length∧out=qC day p m ds ds:=by
  have e:qC day p m ds ds=out:=by rw[h.f];exact dE _
  have:=h.len;have:=h.ep
  rw[e];exact⟨by omega,by omega,rfl⟩
theorem I9{α:Type}{l r:List α}{j:Nat}{a:α}(h:l.drop j=a::r):(a::r).length≤l.length:=by rw[←h,wm];omega
theorem Wy{day:Int}{p:aR}{m:List (Int×PStart)}{ds r:List PDeed}{d:PDeed}(h:qC day p m ds (d::r)=[])(ha:bd d.it.kind=true):s5 day p m ds d=false:=by
  cases q:s5 day p m ds d with
  |false=>rfl
  |true=>rw[Gw ha q]at h;cases h
theorem YJ(gs:List PGaz)(L:List PAct)(ds:List PDeed)(day:Int)(p:aR)(hL:L.length<10000)(hd:ds.length<100000)(ha:kP 67 [.ls (gs.map aa)] (.ls (L.map ay)))(hi:kP 68 [.ls (gs.map aa)] (.ls (ds.map aq)))(hE:qC day p (jP L []) ds ds=[]):
    kD 47 [.ls (gs.map aa),.func (.func 48) [] [.ptr 1 0 0 0,.ptr 0 0 0 0,.ptr 2 0 0 0]] (ab [jQ day,gT p,qF]) (.tuple []) (ab [jQ day,gT p,qF]):=by
  have hlk:=pw
  have hup:=rh
  let q1:=[iV day];exact eR Tryz.func47 fun a=>Kp 2 ha<|Kl 0 13 (ln ay L)<|Mg 0<|PJ ay L ([]:List (Int×PStart)) [0,1,4,12,13,14] (fun a _ b=>([aW<|gs.map aa,bx (bz 48) [] [bj 1 0 0 0,bj 0 0 0 0,bj 2 0 0 0],AV.map 3,aW<|L.map ay,nV L.length,nV a],[aZ 1 false 0 [iV day],aZ 1 false 0 [aV p],aZ 1 false 0 [al],AObj.map (ba av b 0) b.length])) (fun a b=>jP L []=jP a b) (by rfl) (fun _ _ b _ _ _ c d=>Kh 0 c<|Kp 0 hi<|Kl 2 27 (ln aq ds)<|Mg 0<|WX (0:Nat) ds () [1,4,7,26,27,28] (fun a _ _=>([bx (bz 48) [] [bj 1 0 0 0,bj 0 0 0 0,bj 2 0 0 0],AV.map 3,aW<|ds.map aq,aW<|ds.map aq,nV ds.length,nV a],[aZ 1 false 0 [iV day],aZ 1 false 0 [aV p],aZ 1 false 0 [al],AObj.map (ba av b 0) b.length])) (fun a c _=>(ds).drop a=c∧qC day p b ds c=[]) (fun _ a _=>a.length) (et rfl<|by(rw[←show jP L []=b from d];exact hE)) fun c d e f g=>Mc d (fun c=>have d:=eN f.1 c;have:=gu (J:=fun a _=>qC day p b ds a=[]) (a:=e) c f.2;Kh 0 d<|M1 (.frz 3 []) (jd rt rt rt ti)<|Mf a) fun a d h=>let i:=[ax [iV a.act,iV a.item,iV a.day,iV a.it.kind,aW<|a.it.at_.map aj,aW<|a.it.to.map aj,iV a.it.where_,iV a.it.nth_,iV a.it.unit.act,iV a.it.unit.item,iV a.it.unit.n,iV a.it.unit.kind,aV a.it.unit.label,aW<|a.it.unit.head.map aQ,aW<|a.it.unit.words.map aQ,aW<|a.it.unit.kids.map aY,aW<|a.it.old.map nQ,aW<|a.it.new.map nQ,aV a.it.label,aV a.it.for_,iV a.it.start.kind,iV a.it.start.day,aV a.it.start.event,iV a.it.act,iV a.it.item,iV a.it.day,aV a.it.event,aW<|a.it.by_.map Og]];have j:=fY f.1 h;have:=ar j;have k:=eM (enc:=aq) f.1 h;have e:=cj (J:=fun a _=>qC day p b ds a=[]) (a:=e) h f.2;Kt 0 j<|Mx k<|Kp 5 (jt a.it.kind)<|Mb (bd a.it.kind) (fun _=>K1 4 (.look<|ax [iV (aA b a.act).kind,iV (aA b a.act).day,aV (aA b a.act).event]) (hlk b a.act)<|Kp 1 (gy (aA b a.act) a ds<|by(omega))<|M3 (.efx true (eb [])<|ab [aZ 1 false 0 q1,aZ 1 false 0 [aV p],aZ 1 false 0 [al],AObj.map (ba av b 0) b.length,aZ 28 false 0 i]) (yC rt (tM b.length 5<|ah (f:=av) (fun _=>rfl) b 0) rt rt rt ti) (yC (aK<|some<|aZ 28 false 0 i) (aK<|some<|AObj.map (ba av b 0) b.length) (aK<|some<|aZ 1 false 0 [al]) (aK<|some<|aZ 1 false 0 [aV p]) (aK<|some<|aZ 1 false 0 q1) ti) (Y6 day p b ds a<|by exact Wy e (by assumption))<|Kl 0 46 (dV c)<|K1 0 (.frz 4 [1,4,7,26,27,28]) (yQ (tM b.length 4<|ah (f:=av) (fun _=>rfl) b 0) rt rt rt ti)<|Mf<|g (c+1) d () (et (bW f.1 h)<|by(have z:=e;rw[CN (Wy z (by assumption))]at z;exact z))<|dK h) fun _=>Kl 0 46 (dV c)<|K1 0 (.frz 4 [1,4,7,26,27,28]) (yQ (tM b.length 4<|ah (f:=av) (fun _=>rfl) b 0) rt rt rt ti)<|Mf<|g (c+1) d () (et (bW f.1 h)<|by(have z:=e;rw[Gv (by assumption)]at z;exact z))<|dK h) fun a _ b _ _ c d e _ f _ g h=>Kt 0 f<|Mx g<|K1 7 (.upd (ba av (gr c.number c.start b) 0) (gr c.number c.start b).length) (hup b c)<|Kl 0 23 (dV a)<|K1 0 (.frz 4 [0,1,4,12,13,14]) (yQ (tM (gr c.number c.start b).length 4<|ah (f:=av) (fun _=>rfl) (gr c.number c.start b) 0) rt rt rt ti)<|Mf<|e (gr c.number c.start b)<|by exact h
def IX(gs:List PGaz)(L:List PAct)(day:Int)(p:aR)(x0:Nat×List PAct×List (Int×PStart)):Prop:=(L).drop x0.1=x0.2.1∧jP L []=jP x0.2.1 x0.2.2
noncomputable def xB(gs:List PGaz)(L:List PAct)(day:Int)(p:aR)(x0:Nat×List PAct×List (Int×PStart)):List AV×List AObj:=([AV.ls (gs.map aa),AV.func (Fn.func 48) [] [AV.ptr 1 0 0 0,AV.ptr 0 0 0 0,AV.ptr 2 0 0 0],AV.map 3,AV.ls (L.map ay),nV L.length,nV x0.1],[AObj.row 1 false 0 [iV day],AObj.row 1 false 0 [AV.str p],AObj.row 1 false 0 [AV.nils],AObj.map (ba av x0.2.2 0) x0.2.2.length])
def IZ(ds:List PDeed)(day:Int)(p:aR)(x0:Nat×List PAct×List (Int×PStart))(x1:Nat×List PDeed×Unit):Prop:=(ds).drop x1.1=x1.2.1∧OnA day p x0.2.2 ds x1.2.1
noncomputable def xA(ds:List PDeed)(day:Int)(p:aR)(x0:Nat×List PAct×List (Int×PStart))(x1:Nat×List PDeed×Unit):List AV×List AObj:=([AV.func (Fn.func 48) [] [AV.ptr 1 0 0 0,AV.ptr 0 0 0 0,AV.ptr 2 0 0 0],AV.map 3,AV.ls (ds.map aq),AV.ls (ds.map aq),nV ds.length,nV x1.1],[AObj.row 1 false 0 [iV day],AObj.row 1 false 0 [AV.str p],AObj.row 1 false 0 [AV.nils],AObj.map (ba av x0.2.2 0) x0.2.2.length])
def IQ(ds:List PDeed)(day:Int)(p:aR)(x0:Nat×List PAct×List (Int×PStart))(x1:Nat×List PDeed×Nat×Nat×List PDeed):Prop:=(ds).drop x1.1=x1.2.1∧OnR day p x0.2.2 ds x1.2.1 x1.2.2.1 x1.2.2.2.1 x1.2.2.2.2
noncomputable def H9(ds:List PDeed)(day:Int)(p:aR)(x0:Nat×List PAct×List (Int×PStart))(x1:Nat×List PDeed×Nat×Nat×List PDeed):List AV×List AObj:=([AV.func (Fn.func 48) [] [AV.ptr 1 0 0 0,AV.ptr 0 0 0 0,AV.ptr 2 0 0 0],AV.map 3,AV.ls (ds.map aq),AV.ls (ds.map aq),nV ds.length,nV x1.1],[AObj.row 1 false 0 [iV day],AObj.row 1 false 0 [AV.str p],AObj.row 1 false 0 [AV.slice 4 x1.2.2.1 0 x1.2.2.2.1 none],AObj.map (ba av x0.2.2 0) x0.2.2.length,AObj.row 28 true x1.2.2.1 (x1.2.2.2.2.map aq)])
theorem YW(gs:List PGaz)(L:List PAct)(ds:List PDeed)(day:Int)(p:aR)(hL:L.length<10000)(hd:ds.length<100000)(ha:kP 67 [.ls (gs.map aa)] (.ls (L.map ay)))(hi:kP 68 [.ls (gs.map aa)] (.ls (ds.map aq)))(hE:qC day p (jP L []) ds ds≠[]):
    kD 47 [.ls (gs.map aa),.func (.func 48) [] [.ptr 1 0 0 0,.ptr 0 0 0 0,.ptr 2 0 0 0]] (ab [jQ day,gT p,qF]) (.tuple []) (ab [jQ day,gT p,qZ 3 ((qC day p (jP L []) ds ds).length -1) (qC day p (jP L []) ds ds).length,pR ((qC day p (jP L []) ds ds).length -1) (qC day p (jP L []) ds ds)]):=by
  have hlk:=pw
  have hup:=rh
  let q5:=[iV day];let q8:=eb [];let q10:=some (aZ 1 false 0 [aV p]);let q11:=some (aZ 1 false 0 q5);exact Pm Tryz.func47<|Kp 2 ha<|Kl 0 13 (ln ay L)<|Mg 0<|ML (Nat×List PAct×List (Int×PStart)) [0,1,4,12,13,14] (xB gs L day p) (IX gs L day p) (fun a=>a.2.1.length) (0,L,[]) (aK<|xB gs L day p (0,L,[])) (et (rfl:List.drop 0 (L)=L) (by rfl:(jP L []=jP L []))) fun a b c=>let d:=some<|AObj.map (ba av a.2.2 0) a.2.2.length;Mi (fun a b=>jP L []=jP a b) ay b (fun _ b c=>Kh 0 b<|Kp 0 hi<|Kl 2 27 (ln aq ds)<|Mg 0<|MM (Nat×List PDeed×Unit) (Nat×List PDeed×Nat×Nat×List PDeed) [1,4,7,26,27,28] (xA ds day p a) (H9 ds day p a) (IZ ds day p a) (IQ ds day p a) (fun a=>a.2.1.length) (fun a=>a.2.1.length) (.inl (0,ds,())) (aK<|xA ds day p a (0,ds,())) (et (rfl:List.drop 0 (ds)=ds) (by(exact⟨rfl⟩):(OnA day p a.2.2 ds ds))) (fun b e f=>Mc b.2.1 (fun d=>have f:=eN e.1 d;have b:=gu (J:=fun b _=>OnA day p a.2.2 ds b) (a:=b.2.2) d e.2;Kh 0 f<|Mw .abs (by exact hE (by rw[show jP L []=a.2.2 from c];exact b.f):False)) fun c g h=>let i:=[ax [iV c.act,iV c.item,iV c.day,iV c.it.kind,aW<|c.it.at_.map aj,aW<|c.it.to.map aj,iV c.it.where_,iV c.it.nth_,iV c.it.unit.act,iV c.it.unit.item,iV c.it.unit.n,iV c.it.unit.kind,aV c.it.unit.label,aW<|c.it.unit.head.map aQ,aW<|c.it.unit.words.map aQ,aW<|c.it.unit.kids.map aY,aW<|c.it.old.map nQ,aW<|c.it.new.map nQ,aV c.it.label,aV c.it.for_,iV c.it.start.kind,iV c.it.start.day,aV c.it.start.event,iV c.it.act,iV c.it.item,iV c.it.day,aV c.it.event,aW<|c.it.by_.map Og]];let j:=ax [iV (aA a.2.2 c.act).kind,iV (aA a.2.2 c.act).day,aV (aA a.2.2 c.act).event];have k:=fY e.1 h;have:=ar k;have l:=eM (enc:=aq) e.1 h;have m:=cj (J:=fun b _=>OnA day p a.2.2 ds b) (a:=b.2.2) h e.2;Kt 0 k<|Mx l<|Kp 5 (jt c.it.kind)<|Mb (bd c.it.kind) (fun _=>Ms (s5 day p a.2.2 ds c) (fun d=>K1 4 (.look j) (hlk a.2.2 c.act)<|Kp 1 (gy (aA a.2.2 c.act) c ds<|by(omega))<|M3 (.efx false q8<|ab [aZ 1 false 0 q5,aZ 1 false 0 [aV p],aZ 1 false 0 [aM 5 0 0 1 none],AObj.map (ba av a.2.2 0) a.2.2.length,aZ 28 false 0 i,aZ 28 true 0 i]) (yC rt (tM a.2.2.length 5<|ah (f:=av) (fun _=>rfl) a.2.2 0) rt rt rt ti) ti (aaD day p a.2.2 ds c d)<|Kl 0 46 (dV b.1)<|K1 0 (.ren [0,1,2,3,5,4] [3] [1,4,7,26,27,28]) (tN a.2.2.length<|ah (f:=av) (fun _=>rfl) a.2.2 0)<|M1 (.frz 5 [1,4,7,26,27,28]) (yC rt (tM a.2.2.length 5<|ah (f:=av) (fun _=>rfl) a.2.2 0) rt rt rt ti)<|Mf<|f (.inr (b.1+1,g,(0,1,[c]))) (et (bW e.1 h) (by exact m.new (I9 (e.1.trans h)) (by assumption) (by assumption) rfl:(OnR day p a.2.2 ds g (0:Nat) (1:Nat) [c])))<|dK h) fun k=>K1 4 (.look j) (hlk a.2.2 c.act)<|Kp 1 (gy (aA a.2.2 c.act) c ds<|by(omega))<|M3 (.efx true q8<|ab [aZ 1 false 0 q5,aZ 1 false 0 [aV p],aZ 1 false 0 [al],AObj.map (ba av a.2.2 0) a.2.2.length,aZ 28 false 0 i]) (yC rt (tM a.2.2.length 5<|ah (f:=av) (fun _=>rfl) a.2.2 0) rt rt rt ti) (yC (aK<|some<|aZ 28 false 0 i) (aK d) (aK<|some<|aZ 1 false 0 [al]) (aK q10) (aK q11) ti) (aaE day p a.2.2 ds c k)<|Kl 0 46 (dV b.1)<|K1 0 (.frz 4 [1,4,7,26,27,28]) (yQ (tM a.2.2.length 4<|ah (f:=av) (fun _=>rfl) a.2.2 0) rt rt rt ti)<|Mf<|f (.inl (b.1+1,g,())) (et (bW e.1 h) (by exact m.nil (by assumption):(OnA day p a.2.2 ds g)))<|dK h) fun _=>Kl 0 46 (dV b.1)<|K1 0 (.frz 4 [1,4,7,26,27,28]) (yQ (tM a.2.2.length 4<|ah (f:=av) (fun _=>rfl) a.2.2 0) rt rt rt ti)<|Mf<|f (.inl (b.1+1,g,())) (et (bW e.1 h) (by exact m.no (by assumption):(OnA day p a.2.2 ds g)))<|dK h) fun b e f=>let g:=[aM 4 b.2.2.1 0 b.2.2.2.1 none];let h:=List.map aq b.2.2.2.2;Mc b.2.1 (fun d=>have f:=eN e.1 d;have d:=gu (J:=fun b c=>OnR day p a.2.2 ds b c.1 c.2.1 c.2.2) (a:=b.2.2) d e.2;Kh 0 f<|M2 (.ren [0,1,2,4,3] [4,3] []) (tS 28 true b.2.2.1<|aX xp b.2.2.2.2) (tN a.2.2.length<|ah (f:=av) (fun _=>rfl) a.2.2 0)<|M1 (.frz 4 []) (yQ (tR 28 true b.2.2.1 4<|aX xp b.2.2.2.2) rt rt rt ti)<|Mf<|et (aK q8) (by(have q:=d.done;rw[show jP L []=a.2.2 from c,q.1,q.2.1,q.2.2]):(ab [AObj.row 1 false 0 [iV day],AObj.row 1 false 0 [AV.str p],AObj.row 1 false 0 [AV.slice 3 b.2.2.1 0 b.2.2.2.1 none],AObj.row 28 true b.2.2.1 (b.2.2.2.2.map aq)])=(ab [jQ day,gT p,qZ 3 ((qC day p (jP L []) ds ds).length -1) (qC day p (jP L []) ds ds).length,pR ((qC day p (jP L []) ds ds).length -1) (qC day p (jP L []) ds ds)]))) fun c i j=>let k:=[ax [iV c.act,iV c.item,iV c.day,iV c.it.kind,aW<|c.it.at_.map aj,aW<|c.it.to.map aj,iV c.it.where_,iV c.it.nth_,iV c.it.unit.act,iV c.it.unit.item,iV c.it.unit.n,iV c.it.unit.kind,aV c.it.unit.label,aW<|c.it.unit.head.map aQ,aW<|c.it.unit.words.map aQ,aW<|c.it.unit.kids.map aY,aW<|c.it.old.map nQ,aW<|c.it.new.map nQ,aV c.it.label,aV c.it.for_,iV c.it.start.kind,iV c.it.start.day,aV c.it.start.event,iV c.it.act,iV c.it.item,iV c.it.day,aV c.it.event,aW<|c.it.by_.map Og]];let l:=ax [iV (aA a.2.2 c.act).kind,iV (aA a.2.2 c.act).day,aV (aA a.2.2 c.act).event];have m:=fY e.1 j;have:=ar m;have n:=eM (enc:=aq) e.1 j;have o:=cj (J:=fun b c=>OnR day p a.2.2 ds b c.1 c.2.1 c.2.2) (a:=b.2.2) j e.2;Kt 0 m<|Mx n<|Kp 5 (jt c.it.kind)<|Mb (bd c.it.kind) (fun _=>Ms (s5 day p a.2.2 ds c) (fun d=>K1 4 (.look l) (hlk a.2.2 c.act)<|Kp 1 (gy (aA a.2.2 c.act) c ds<|by(omega))<|M3 (.efx false q8<|ab [aZ 1 false 0 q5,aZ 1 false 0 [aV p],aZ 1 false 0 [aM 4 (b.2.2.1+1) 0 (b.2.2.2.1+1) none],AObj.map (ba av a.2.2 0) a.2.2.length,aZ 28 true (b.2.2.1+1)<|(b.2.2.2.2++[c]).map aq,aZ 28 false 0 k]) (Oc rt (tR 28 true b.2.2.1 6<|aX xp b.2.2.2.2) (tM a.2.2.length 6<|ah (f:=av) (fun _=>rfl) a.2.2 0) rt rt rt ti) ti (aaB day p a.2.2 ds c b.2.2.1 b.2.2.2.1 b.2.2.2.2 d (by exact o.len)<|by(have z:=o.small;have z2:=o.len;simp only[lC]at z;omega))<|Kl 0 46 (dV b.1)<|K1 0 (.frz 5 [1,4,7,26,27,28]) (yC (tR 28 true (b.2.2.1+1) 5<|aX xp<|b.2.2.2.2++[c]) (tM a.2.2.length 5<|ah (f:=av) (fun _=>rfl) a.2.2 0) rt rt rt ti)<|Mf<|f (.inr (b.1+1,i,(b.2.2.1+1,b.2.2.2.1+1,b.2.2.2.2++[c]))) (et (bW e.1 j) (by exact o.new (by assumption) (by assumption) rfl:(OnR day p a.2.2 ds i (b.2.2.1+1) (b.2.2.2.1+1) (b.2.2.2.2++[c]))))<|dK j) fun m=>K1 4 (.look l) (hlk a.2.2 c.act)<|Kp 1 (gy (aA a.2.2 c.act) c ds<|by(omega))<|M3 (.efx true q8<|ab [aZ 1 false 0 q5,aZ 1 false 0 [aV p],aZ 1 false 0 g,AObj.map (ba av a.2.2 0) a.2.2.length,aZ 28 true b.2.2.1 h,aZ 28 false 0 k]) (Oc rt (tR 28 true b.2.2.1 6<|aX xp b.2.2.2.2) (tM a.2.2.length 6<|ah (f:=av) (fun _=>rfl) a.2.2 0) rt rt rt ti) (Oc (aK<|some<|aZ 28 false 0 k) (aK<|some<|aZ 28 true b.2.2.1 h) (aK d) (aK<|some<|aZ 1 false 0 g) (aK q10) (aK q11) ti) (aaC day p a.2.2 ds c b.2.2.1 b.2.2.2.1 b.2.2.2.2 m)<|Kl 0 46 (dV b.1)<|K1 0 (.frz 5 [1,4,7,26,27,28]) (yC (tR 28 true b.2.2.1 5<|aX xp b.2.2.2.2) (tM a.2.2.length 5<|ah (f:=av) (fun _=>rfl) a.2.2 0) rt rt rt ti)<|Mf<|f (.inr (b.1+1,i,(b.2.2.1,b.2.2.2.1,b.2.2.2.2))) (et (bW e.1 j) (by exact o.nil (by assumption):(OnR day p a.2.2 ds i b.2.2.1 b.2.2.2.1 b.2.2.2.2)))<|dK j) fun _=>Kl 0 46 (dV b.1)<|K1 0 (.frz 5 [1,4,7,26,27,28]) (yC (tR 28 true b.2.2.1 5<|aX xp b.2.2.2.2) (tM a.2.2.length 5<|ah (f:=av) (fun _=>rfl) a.2.2 0) rt rt rt ti)<|Mf<|f (.inr (b.1+1,i,(b.2.2.1,b.2.2.2.1,b.2.2.2.2))) (et (bW e.1 j) (by exact o.no (by assumption):(OnR day p a.2.2 ds i b.2.2.1 b.2.2.2.1 b.2.2.2.2)))<|dK j) fun d e f g _ h i=>Kt 0 g<|Mx h<|K1 7 (.upd (ba av (gr d.number d.start a.2.2) 0) (gr d.number d.start a.2.2).length) (hup a.2.2 d)<|Kl 0 23 (dV a.1)<|K1 0 (.frz 4 [0,1,4,12,13,14]) (yQ (tM (gr d.number d.start a.2.2).length 4<|ah (f:=av) (fun _=>rfl) (gr d.number d.start a.2.2) 0) rt rt rt ti)<|Mf<|c (a.1+1,e,gr d.number d.start a.2.2) (et (bW b.1 f) (by exact i:(jP L []=jP e (gr d.number d.start a.2.2))))<|dK f
/-- What is in force on a day for a purpose. -/
noncomputable def onL(day:Int)(p:aR)(L:List PAct)(ds:List PDeed):List PDeed:=qC day p (jP L []) ds ds
theorem Y4(gs:List PGaz)(day:Int)(p:aR)(hc:kD 47 [.ls (gs.map aa),.func (.func 48) [] [.ptr 1 0 0 0,.ptr 0 0 0 0,.ptr 2 0 0 0]] (ab [jQ day,gT p,qF]) (.tuple []) (ab [jQ day,gT p,qF])):kP 26 [iV day,.str p,.ls (gs.map aa)] (.ls (([]:List PDeed).map aq)):=by
  exact bG Tryz.func26<|Ke 5 hc<|Kf 1 bM
theorem Y3(gs:List PGaz)(day:Int)(p:aR)(X:List PDeed)(k:Nat)(hz:0<X.length)(hb:X.length<2^40)(hc:kD 47 [.ls (gs.map aa),.func (.func 48) [] [.ptr 1 0 0 0,.ptr 0 0 0 0,.ptr 2 0 0 0]] (ab [jQ day,gT p,qF]) (.tuple []) (ab [jQ day,gT p,qZ 3 k X.length,pR k X])):kP 26 [iV day,.str p,.ls (gs.map aa)] (.ls (X.map aq)):=by
  let q:=List.map aq X;exact bG Tryz.func26<|Ke 5 hc<|Mg 1<|M2 (.fsl 0 [] 6 q) ti (ca (aK k) (tA aq X X.length rfl)<|aX xp X)<|Ml 6 (fm q false<|aX xp X)<|Mf<|bh<|aW q
theorem Y5(gs:List PGaz)(L:List PAct)(ds:List PDeed)(day:Int)(p:aR)(hL:L.length<10000)(hd:ds.length<100000)(ha:kP 67 [.ls (gs.map aa)] (.ls (L.map ay)))(hi:kP 68 [.ls (gs.map aa)] (.ls (ds.map aq))):kP 26 [iV day,.str p,.ls (gs.map aa)] (.ls ((onL day p L ds).map aq)):=by
  by_cases hE:onL day p L ds=[]
  · rw[hE];exact Y4 gs day p (YJ gs L ds day p hL hd ha hi hE)
  · have hl:(onL day p L ds).length≤ds.length:=List.length_filter_le ..
    exact Y3 gs day p _ _ (qw.2 hE) (by omega) (YW gs L ds day p hL hd ha hi hE)
/-- The book with nothing in it. -/
def vf:TUnit:=⟨0,0,0,0,[],[],[],[]⟩
theorem SY:OkB vf:=⟨by decide,by decide,fun x hx=>by
  have e:x=vf:=by simpa[vf,bu,dr]using hx
  subst e;exact⟨bL _,bL _⟩⟩
theorem Yh(X:List PDeed)(hl:X.length<2^30)(ho:∀d,d∈X→yi d.it):kP 59 [zU,.ls (X.map aq)] (.tuple [eU (dc vf X),.ls ((fh vf X).map iE)]):=
  (S7 vf X SY hl ho).args (.cons (wl _ _ (by kernel_rfl)).1 (.cons (Le.refl _) .nil))
theorem Se(X:List PDeed)(hl:X.length<2^30)(ho:∀d,d∈X→yi d.it):kP 37 [.ls (X.map aq)] (.tuple [eU (dc vf X),.ls ((fh vf X).map iE)]):=by
  have h:=Yh X hl ho
  exact bG Tryz.func37<|Kp 3 h<|Kf 3<|bh<|eb [ax [iV (dc vf X).act,iV (dc vf X).item,iV (dc vf X).n,iV (dc vf X).kind,aV (dc vf X).label,aW<|List.map aQ (dc vf X).head,aW<|List.map aQ (dc vf X).words,aW<|List.map aY (dc vf X).kids],aW<|(fh vf X).map iE]
theorem Vu(gs:List PGaz)(day:Int)(p:aR)(X:List PDeed)(hon:kP 26 [iV day,.str p,.ls (gs.map aa)] (.ls (X.map aq))):kP 36 [iV day,.str p,.ls (gs.map aa)] (.ls (X.map aq)):=by
  exact bG Tryz.func36<|Kp 3 hon<|Kf 0<|bh<|aW<|X.map aq
theorem SE(gs:List PGaz)(day:Int)(p:aR)(X:List PDeed)(hl:X.length<2^30)(ho:∀d,d∈X→yi d.it)(hon:kP 26 [iV day,.str p,.ls (gs.map aa)] (.ls (X.map aq))):kP 14 [iV day,.str p,.ls (gs.map aa)] (eU (dc vf X)):=by
  have h1:=Vu gs day p X hon
  have h2:=Se X hl ho
  exact bG Tryz.func14<|Kp 3 h1<|Mp h2<|Kf 7<|bh<|ax [iV (dc vf X).act,iV (dc vf X).item,iV (dc vf X).n,iV (dc vf X).kind,aV (dc vf X).label,aW<|List.map aQ (dc vf X).head,aW<|List.map aQ (dc vf X).words,aW<|List.map aY (dc vf X).kids]
/-- What the bound on gazettes tells. -/
structure OkG(gs:List PGaz):Prop where
  fit:pH gs
  len:gs.length≤9
  acts:∀g,g∈gs→g.acts.length≤20
  items:∀g,g∈gs→∀a,a∈g.acts→a.items.length≤40∧∀x,x∈a.items→m7 x=true
theorem Hi{most:Int}:∀(l:List PAct)(n m:Int),most=24→0≤n→mY most l n=some m→0≤m∧∀a,a∈l→a.items.length≤24∧∀x,x∈a.items→m7 x=true
  |[],n,m,_,hn,h=>by simp only[mY,xH]at h;exact⟨h▸hn,fun a ha=>by cases ha⟩
  | b::r,n,m,hm,hn,h=>by
    unfold mY at h
    cases hb:BA most n b with
    |true=>rw[hb]at h;cases h
    | false=>
      rw[hb]at h
      unfold BA at hb
      simp only[wC]at hb
      obtain⟨z1,_,_,z2⟩:=hb
      have z1:=aG z1
      obtain⟨q1,q2⟩:=Hi r (n+Int.ofNat b.items.length) m hm (by simp only[oN]at *;omega) h
      refine⟨q1,fun a ha=>?_⟩
      rcases fQ.1 ha with rfl|ha
      · refine⟨by simp only[oN]at *;omega,fun x hx=>?_⟩
        have z3:=qD z2
        exact na.1 z3 x hx
      · exact q2 a ha
theorem MZ:∀(l:List PGaz)(n:Int),0≤n→uG 24 l n=true→∀g,g∈l→g.acts.length≤8∧∀a,a∈g.acts→a.items.length≤24∧∀x,x∈a.items→m7 x=true
  |[],_,_,_,g,hg=>by cases hg
  | x::r,n,hn,h,g,hg=>by
    unfold uG at h
    cases hb:wz x with
    |true=>rw[hb]at h;cases h
    | false=>
      rw[hb]at h
      cases ha:mY 24 x.acts n with
      |none=>rw[ha]at h;cases h
      | some m=>
        rw[ha]at h
        obtain⟨q1,q2⟩:=Hi x.acts n m rfl hn ha
        rcases fQ.1 hg with rfl|hg
        · unfold wz at hb
          have:=aG (wC.1 hb).1
          exact⟨by simp only[oN]at *;omega,q2⟩
        · exact MZ r m q1 h g hg
theorem XY{gs:List PGaz}{p:aR}(hf:pH gs)(h:Ov gs p=true):OkG gs∧gs.length≤8:=by
  unfold Ov at h
  have h1:=(jM.1 h).1
  unfold Oy at h1
  cases hb:aF 8 (Int.ofNat gs.length)with
  |true=>rw[hb]at h1;cases h1
  | false=>
    rw[hb]at h1
    have:=aG hb
    have hl:gs.length≤8:=by simp only[oN]at *;omega
    have q:=MZ gs 0 (by omega) h1
    exact⟨⟨hf,by omega,fun g hg=>bR (q g hg).1 (by decide),fun g hg a ha=>⟨bR ((q g hg).2 a ha).1 (by decide),((q g hg).2 a ha).2⟩⟩,hl⟩
theorem OkG.sub{gs hs:List PGaz}(h:OkG gs)(hl:hs.length≤9)(hm:∀g,g∈hs→g∈gs):OkG hs:=
  ⟨⟨by omega,fun g hg=>h.fit.2 g (hm g hg)⟩,hl,fun g hg=>h.acts g (hm g hg),fun g hg=>h.items g (hm g hg)⟩
theorem Cp:∀(ys out:List PAct),(ys.foldl iM out).length≤out.length+ys.length
  |[],out=>aB _
  | a::r,out=>by
    have:=Cp r (iM out a);have:=(PH out a).2
    simp only[ly,lC];omega
theorem AG:∀(gs:List PGaz),(∀g,g∈gs→g.acts.length≤20)→∀out,(bJ gs out).length≤out.length+20*gs.length
  |[],_,out=>aB _
  | g::r,hb,out=>by
    have:=AG r (fun x hx=>hb x (eW _ hx)) (g.acts.foldl iM out)
    have:=Cp g.acts out
    have:=hb g (dI ..)
    simp only[bJ,ly,lC]at *
    omega
theorem PG{out:List PAct}{a b:PAct}(h:b∈iM out a):b∈out∨b=a:=by
  unfold iM at h
  split at h
  · exact .inl h
  · rcases iG.1 h with h|h
    · exact .inl h
    · exact .inr (n7.1 h)
theorem Co:∀(ys out:List PAct)(b:PAct),b∈ys.foldl iM out→b∈out∨b∈ys
  |[],out,b,h=>.inl h
  | a::r,out,b,h=>by
    rcases Co r (iM out a) b h with h|h
    · rcases PG h with h|rfl
      · exact .inl h
      · exact .inr (dI ..)
    · exact .inr (eW _ h)
theorem AF:∀(gs:List PGaz)(out:List PAct)(b:PAct),b∈bJ gs out→b∈out∨∃g,g∈gs∧b∈g.acts
  |[],out,b,h=>.inl h
  | g::r,out,b,h=>by
    rcases AF r (g.acts.foldl iM out) b h with h|⟨g2,q1,q2⟩
    · rcases Co g.acts out b h with h|h
      · exact .inl h
      · exact .inr ⟨g,dI ..,h⟩
    · exact .inr ⟨g2,eW _ q1,q2⟩
theorem vb:∀(l:List PAct),(∀a,a∈l→a.items.length≤40)→(gL l).length≤40*l.length
  |[],_=>aB _
  | a::r,h=>by
    have:=vb r fun b hb=>h b (eW _ hb)
    have:=h a (dI ..)
    simp only[gL,Cj,lA,lE,lC]at *
    omega
theorem OkG.act{gs:List PGaz}(h:OkG gs){a:PAct}(ha:a∈b7 gs):a.items.length≤40∧(∀x,x∈a.items→m7 x=true)∧RM a:=by
  have ha:=(jZ gs).mem_iff.1 ha
  rcases AF gs [] a ha with q|⟨g,h1,h2⟩
  · cases q
  · exact⟨(h.items g h1 a h2).1,(h.items g h1 a h2).2,(h.fit.2 g h1).2 a h2⟩
/-- The items as they stand. -/
noncomputable def gd(gs:List PGaz):List PDeed:=bP (ap (b7 gs) []) (b7 gs)
theorem OkG.lens{gs:List PGaz}(h:OkG gs):(b7 gs).length≤180∧(gd gs).length≤7200:=by
  have h1:=AG gs h.acts []
  have h2:=(jZ gs).length_eq
  have h3:=vb (b7 gs) fun a ha=>(h.act ha).1
  have h4:=h.len
  have h5:(gd gs).length=(gL (b7 gs)).length:=cZ ..
  simp only[lN]at h1
  omega
theorem OkG.all{gs:List PGaz}(h:OkG gs):kP 67 [.ls (gs.map aa)] (.ls ((b7 gs).map ay))∧kP 68 [.ls (gs.map aa)] (.ls ((gd gs).map aq)):=by
  have h1:=h.lens
  have h2:=(jZ gs).length_eq
  have h3:(gd gs).length=(gL (b7 gs)).length:=cZ ..
  have h4:=h.len
  exact⟨NW gs h.fit (fun g hg=>ny (h.acts g hg) (by decide)) (by omega) (by omega),RQ gs h.fit (fun g hg=>ny (h.acts g hg) (by decide)) (by omega) (by omega) (fun a ha=>ny (h.act ha).1 (by decide)) (by omega)⟩
theorem Yj{x y:PItem}(h:m7 x=true)(hy:y∈x.by_):m7 y=true:=by
  rw[EC]at h
  simp only[bq]at h
  have:=na.1 h.2.2.2.2.2 y hy
  unfold IY at this
  exact(jM.1 this).2
theorem Yx{x y:PItem}(h:nq x)(hy:y∈x.by_):nq y:=(rQ.1 h).2.2.2.2.2.2 y hy
theorem zh{K V:Type}{keq:K→K→Bool}{k:K}{v:V}:∀{l:List (K×V)}{e:K×V},e∈fV keq k v l→e∈l∨e.2=v
  | [],e,h=>by
    rw[fV,n7]at h;exact .inr (by rw[h])
  | (j,u)::r,e,h=>by
    rw[fV]at h
    cases q:keq k j with
    | true=>
      rw[q]at h
      rcases fQ.1 h with h|h
      · exact .inr (by rw[h])
      · exact .inl (eW _ h)
    | false=>
      rw[q]at h
      rcases fQ.1 h with h|h
      · exact .inl (by rw[h];exact dI ..)
      · rcases zh (l:=r) h with h|h
        · exact .inl (eW _ h)
        · exact .inr h
theorem AB{K V:Type}{keq:K→K→Bool}{k:K}{v:V}:∀{l:List (K×V)},iS keq k l=some v→∃e,e∈l∧e.2=v
  |[],h=>by cases h
  | (j,u)::r,h=>by
    rw[iS]at h
    cases q:keq k j with
    |true=>rw[q]at h;exact⟨(j,u),dI ..,Fc h⟩
    | false=>
      rw[q]at h
      obtain⟨e,h1,h2⟩:=AB (l:=r) h
      exact⟨e,eW _ h1,h2⟩
theorem Om{m:List ((Int×Int)×PItem)}{x:PItem}(hm:∀e,e∈m→yi e.2)(h1:m7 x=true)(h2:nq x):∀e,e∈fw m x→yi e.2:=by
  unfold fw
  split
  · rename_i h
    simp only[bq]at h
    have hl:=ar h.1.2
    have hy:gD x.by_ 0∈x.by_:=fR (by simp only[oN]at hl;omega)
    intro e he
    rcases zh he with q|q
    · exact hm e q
    · rw[q];exact Qs (Yx h2 hy) (Yj h1 hy)
  · exact hm
theorem Di:∀(xs:List PItem)(m:List ((Int×Int)×PItem)),(∀e,e∈m→yi e.2)→(∀x,x∈xs→m7 x=true∧nq x)→∀e,e∈xs.foldl fw m→yi e.2
  |[],_,hm,_=>hm
  |x::r,m,hm,h=>Di r (fw m x) (Om hm (h x (dI ..)).1 (h x (dI ..)).2) fun y hy=>h y (eW _ hy)
theorem Dh:∀(l:List PAct)(m:List ((Int×Int)×PItem)),(∀e,e∈m→yi e.2)→(∀a,a∈l→∀x,x∈a.items→m7 x=true∧nq x)→∀e,e∈ap l m→yi e.2
  |[],_,hm,_=>hm
  |a::r,m,hm,h=>Dh r (a.items.foldl fw m) (Di a.items m hm (h a (dI ..))) fun b hb=>h b (eW _ hb)
theorem pn(a:PAct):∀(l:List PItem)(i:Nat)(d:PDeed),d∈b6 a l i→d.it∈l
  |[],_,d,h=>by cases h
  | x::r,i,d,h=>by
    rcases fQ.1 h with rfl|h
    · exact dI ..
    · exact eW _ (pn a r _ d h)
theorem OkG.deed{gs:List PGaz}(h:OkG gs){d:PDeed}(hd:d∈gd gs):yi d.it:=by
  have hi:∀a,a∈b7 gs→∀x,x∈a.items→m7 x=true∧nq x:=fun a ha x hx=>⟨(h.act ha).2.1 x hx,(h.act ha).2.2.2 x hx⟩
  obtain⟨o,ho,rfl⟩:=ku.1 hd
  obtain⟨a,ha,hoa⟩:=List.mem_flatMap.1 ho
  have h1:=hi a ha _ (pn a _ _ _ hoa)
  have h2:yi o.it:=Qs h1.2 h1.1
  unfold iz
  split
  · rename_i hc
    have hc:=(jM.1 hc).1
    unfold oy at hc
    show yi (zX (ap (b7 gs) []) o)
    unfold zX
    cases q:iS gH (o.act,o.item) (ap (b7 gs) [])with
    |none=>rw[q]at hc;cases hc
    | some v=>
      obtain⟨e,e1,e2⟩:=AB q
      have:=Dh (b7 gs) [] (fun e he=>by cases he) hi e e1
      rw[e2]at this
      exact this
  · exact h2
/-- What is in force. -/
noncomputable def fS(day:Int)(p:aR)(gs:List PGaz):List PDeed:=onL day p (b7 gs) (gd gs)
noncomputable def js(day:Int)(p:aR)(gs:List PGaz):TUnit:=dc vf (fS day p gs)
theorem OkG.force{gs:List PGaz}(h:OkG gs)(day:Int)(p:aR):(fS day p gs).length<2^30∧(∀d,d∈fS day p gs→yi d.it)∧kP 26 [iV day,.str p,.ls (gs.map aa)] (.ls ((fS day p gs).map aq)):=by
  have hl:=h.lens
  have h1:(fS day p gs).length≤(gd gs).length:=List.length_filter_le ..
  exact⟨by omega,fun d hd=>h.deed (Cx.1 hd).1,Y5 gs _ _ day p (by omega) (by omega) h.all.1 h.all.2⟩
theorem OkG.book{gs:List PGaz}(h:OkG gs)(day:Int)(p:aR):kP 14 [iV day,.str p,.ls (gs.map aa)] (eU (js day p gs)):=
  SE gs day p _ (h.force day p).1 (h.force day p).2.1 (h.force day p).2.2
theorem OkG.okB{gs:List PGaz}(h:OkG gs)(day:Int)(p:aR):OkB (js day p gs):=Iz SY (h.force day p).2.1
end Go.Proofs.YtaepacpodblomaaGreatDoor
