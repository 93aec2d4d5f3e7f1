/- Functions walked: what each of them answers, for The book is constant between change days and differs on each change day from the day before: part 7. Conditions: those that each theorem names. -/
import Derived.Test.YtaepacpodblomaaGreatDoorH6
namespace Go.Proofs.YtaepacpodblomaaGreatDoor
open Go Go.Ev
noncomputable abbrev lL(ep:Nat)(out:List Int):AObj:=.row 1 true ep (out.map aw)
theorem wG:kP 46 [.nils] (.ls ((g0 []).map aJ)):=(gG [] (by simp)).onArgs (.cons Le.nils .nil)
theorem Dh{g:Int→Bool}{K:List Int}{x e:Nat}{S:List PSpan}(h:S=j8 g (K.drop (x-1)))(h1:1≤x)(h2:x<K.length)(hg:g (gD K (x-1))=true)(he:e=x+1):S=⟨gD K (x-1),gD K x⟩::j8 g (K.drop (e-1)):=by rw[h,CY h1 h2,hg,he]
theorem Di{g:Int→Bool}{K:List Int}{x e:Nat}{S:List PSpan}(h:S=j8 g (K.drop (x-1)))(h1:1≤x)(h2:x<K.length)(hg:g (gD K (x-1))=false)(he:e=x+1):S=j8 g (K.drop (e-1)):=by rw[h,CY h1 h2,hg,he]
theorem YC:an (be (pq []))=[]:=rN (by have z:=Ap [];exact Nat.le_zero.1 z)
theorem Xc{A B x y:List PSpan}(h1:A=x)(h2:B=y):x++y=A++B:=by rw[h1,h2]
theorem RT{A B x:List PSpan}(h1:A=x)(h2:B=[]):x=A++B:=by rw[h1,h2,ef]
theorem VO{A B y:List PSpan}(h1:A=[])(h2:B=y):y=A++B:=by rw[h1,h2];rfl
theorem TP{A r:List PSpan}{w:PSpan}(h:A=w::r)(hl:A.length≤1048577):r.length<2^30:=by rw[h,lC]at hl;omega
theorem S4{A B:List PSpan}{w v:PSpan}{r s:List PSpan}(h:A=w::r)(k:B=v::s)(hl:A.length≤1048577)(kl:B.length≤1048577):small (r.length+1+((v::s).map aJ).length) 16=true:=by
  rw[h,lC]at hl;rw[k,lC]at kl
  rw[lM,lC];refine dY (m:=2^31) ?_ ?_ ?_<;>omega
theorem KW{B:List PSpan}{v:PSpan}{s:List PSpan}(k:B=v::s)(kl:B.length≤1048577):small ((v::s).map aJ).length 16=true:=by
  rw[k,lC]at kl
  rw[lM,lC];refine dY (m:=2^31) ?_ ?_ ?_<;>omega
def R6(F:Nat)(A:List PSpan)(B:List PSpan)(z20:List PSpan):Prop:=z20=A++B
noncomputable def R5(F:Nat)(A:List PSpan)(B:List PSpan)(z20:List PSpan):List AV×List AObj:=([AV.ls (A.map aJ),AV.ls (B.map aJ),AV.func (Fn.func F) [] [],AV.nils,AV.ls (z20.map aJ),nV z20.length,iV 0],[])
def OK(F:Nat)(A:List PSpan)(B:List PSpan)(z20:List PSpan)(z37:List Int):Prop:=z37=ib z20
noncomputable def OJ(F:Nat)(A:List PSpan)(B:List PSpan)(z20:List PSpan)(z37:List Int):List AV×List AObj:=([AV.ls (A.map aJ),AV.ls (B.map aJ),AV.func (Fn.func F) [] [],AV.ls (z37.map aw)],[])
def OW(F:Nat)(A:List PSpan)(B:List PSpan)(z20:List PSpan)(z37:List Int):Prop:=z37=ib z20
noncomputable def OX(F:Nat)(A:List PSpan)(B:List PSpan)(z20:List PSpan)(z37:List Int):List AV×List AObj:=([AV.ls (A.map aJ),AV.ls (B.map aJ),AV.func (Fn.func F) [] [],AV.ls (z37.map aw)],[])
theorem LP(F:Nat)(op:Bool→Bool→Bool)(hF:∀x y,bW Tryz.prog G F [.bool x,.bool y] (.bool (op x y)))(e0:op false false=false)(a b:List PSpan)(ha:a.length<2^30)(hb:b.length<2^30):
    bW Tryz.prog G 207 [.ls (a.map aJ),.ls (b.map aJ),.func (.func F) [] []] (.ls ((sY op a b).map aJ)):=by
  have nA:=gG a ha
  have nB:=gG b hb
  have hA:=kG a
  have hB:=kG b
  have hd:=OV e0 (a:=a) (b:=b) rfl rfl
  generalize g0 a=A at *
  generalize g0 b=B at *
  have lA:=hA.len
  have lB:=hB.len
  have hasA:∀d,bW Tryz.prog G 71 [.ls (A.map aJ),.int .i64 d] (.bool (gI A d)):=fun d=>JV A d hA.sort (by omega)
  have hasB:∀d,bW Tryz.prog G 71 [.ls (B.map aJ),.int .i64 d] (.bool (gI B d)):=fun d=>JV B d hB.sort (by omega)
  obtain⟨g,hg⟩:∃g:Int→Bool,g=fun d=>op (gI A d) (gI B d):=⟨_,rfl⟩
  have hgv:∀d v0,op (gI A d) (gI B d)=v0→g d=v0:=fun d v0 h=>by rw[hg];exact h
  rw[←hg]at hd
  have hcl:∀x,x=A++B→(ib x).length<2^30:=fun x hx=>by
    have z:=Ap x
    rw[hx,eV]at z
    rw[hx];omega
  have hll:∀x,x=A++B→x.length<2^22:=fun x hx=>by rw[hx,eV];omega
  obtain⟨res,hres⟩:∃res,res=sY op a b:=⟨_,rfl⟩
  rw[←hres]at hd ⊢
  have hdone:∀x y z,x=A++B→y=ib x→j8 g y=z→g0 z=res:=fun x y z h1 h2 h3=>by rw[←h3,h2,h1];exact hd
  clear hd hg hres hA hB
  have rr0 b' (h:(List.map aJ res)=b':=by first|rfl|exact hdone _ _ _ hz20 hz37 (by rw[hx1.2.2,lQ hx1.1 (by(first|omega|(simp only[aP]at *;omega)))])|exact(hdone _ _ _ hz20 hz37 (by rw[hx1.2.2.2.2,lQ hx1.1 (by(first|omega|(simp only[aP]at *;omega))),ef]))|(rw[hdone _ _ _ hz20 hz37 (by rw[hx1.2.2,lQ hx1.1 (by(first|omega|(simp only[aP]at *;omega)))])])|(rw[hdone _ _ _ hz20 hz37 (by rw[hx1.2.2.2.2,lQ hx1.1 (by(first|omega|(simp only[aP]at *;omega))),ef])])):=h;exact bD Tryz.func207<|Kp 1 nA<|Kp 0 nB<|Mg 2<|M0 .inn<|Mj (List PSpan) [0,1,2,7,20,21,22] (R5 F A B) (R6 F A B) (fun c=>Mg 0<|Mc A (fun e=>Ml 17 (fk<|by rw[e];rfl:Le (aW []) (aW (List.map aJ A)))<|Mz 17 (fun(_:([]:List AV)=[])=>Mg 1<|Mc B (fun e=>Ml 19 (fk<|by rw[e];rfl:Le (aW []) (aW (List.map aJ B)))<|Kl 0 20 bI<|Kf 1<|c [] (by exact RT (by assumption) (by assumption):[]=A++B)) fun e f i=>Ml 19 (fk<|by rw[i]:Le (aW (List.map aJ (e::f))) (aW (List.map aJ B)))<|M2 .apl (et (by exact pf _ _:List.map aJ (e::f)≠[])<|fM 2 aJ (e::f) fun _=>rfl) (by exact KW (by assumption) lB:small (List.map aJ (e::f)).length 16=true)<|M2 (.fsl 0 [0,1,2,7] 20<|List.map aJ<|e::f) True.intro (cn (aU 0) (tA aJ (e::f) (List.map aJ<|e::f).length (by(simp only[cJ,cP,eV];done):(e::f).length=(List.map aJ (e::f)).length))<|aX VD<|e::f)<|Ml 20 (fg (List.map aJ<|e::f) false<|aX VD<|e::f)<|Kl 0 21 (ln aJ<|e::f)<|Kf 0<|c (e::f) (by exact VO (by assumption) (by assumption):e::f=A++B))<|Mg 1<|Mc B (fun e=>Ml 19 (fk<|by rw[e];rfl:Le (aW []) (aW (List.map aJ B)))<|Kl 0 20 (fg [] true (aU 0:aq ([])=0))<|Kf 1<|c [] (by exact RT (by assumption) (by assumption):[]=A++B)) fun e f i=>Ml 19 (fk<|by rw[i]:Le (aW (List.map aJ (e::f))) (aW (List.map aJ B)))<|M2 .apl (et (by exact pf _ _:List.map aJ (e::f)≠[])<|fM 2 aJ (e::f) fun _=>rfl) (by exact KW (by assumption) lB:small (List.map aJ (e::f)).length 16=true)<|M2 (.fsl 0 [0,1,2,7] 20<|List.map aJ<|e::f) True.intro (cn (aU 0) (tA aJ (e::f) (List.map aJ<|e::f).length (by(simp only[cJ,cP,eV];done):(e::f).length=(List.map aJ (e::f)).length))<|aX VD<|e::f)<|Ml 20 (fg (List.map aJ<|e::f) false<|aX VD<|e::f)<|Kl 0 21 (ln aJ<|e::f)<|Kf 0<|c (e::f) (by exact VO (by assumption) (by assumption):e::f=A++B)) fun e f i=>Ml 17 (fk<|by rw[i]:Le (aW (List.map aJ (e::f))) (aW (List.map aJ A)))<|Me (RD e f<|by exact TP (by assumption) lA)<|Mg 0<|Mc B (fun i=>Ml 19 (fk<|by rw[i];rfl:Le (aW []) (aW (List.map aJ B)))<|Mg 0<|M2 (.fsl 0 [0,1,2,7] 20<|List.map aJ<|e::f) True.intro (cn (aU 0) (tA aJ (e::f) (f.length+1) rfl)<|aX VD<|e::f)<|Ml 20 (fg (List.map aJ<|e::f) false<|aX VD<|e::f)<|Kl 0 21 (ln aJ<|e::f)<|Kf 0<|c (e::f) (by exact RT (by assumption) (by assumption):e::f=A++B)) fun i j k=>Ml 19 (fk<|by rw[k]:Le (aW (List.map aJ (i::j))) (aW (List.map aJ B)))<|M2 .apl (et (by exact pf _ _:List.map aJ (i::j)≠[])<|fM 2 aJ (i::j) fun _=>rfl) (cn (aU 0) (by(simp only[cJ,cP,eV];done):f.length+1=(List.map aJ (e::f)).length) (by exact S4 (by assumption) (by assumption) lA lB:small (f.length+1+(List.map aJ (i::j)).length) 16=true))<|M1 (.obj 0<|aZ 2 true (0+1)<|List.map aJ<|e::f++i::j) (congrArg (aZ 2 true<|0+1)<|dQ (f:=aJ) (l:=e::f) (ws:=i::j))<|M2 (.fsl 0 [0,1,2,7] 20<|List.map aJ<|e::f++i::j) True.intro (cn (aU<|0+1) (tA aJ (e::f++i::j) (f.length+1+(List.map aJ<|i::j).length) (by(simp only[cJ,cP,eV];done):(e::f++i::j).length=f.length+1+(List.map aJ (i::j)).length))<|aX VD<|e::f++i::j)<|Ml 20 (fg (List.map aJ<|e::f++i::j) false<|aX VD<|e::f++i::j)<|Kl 0 21 (ln aJ<|e::f++i::j)<|Kf 0<|c (e::f++i::j) (by exact Xc (by assumption) (by assumption):e::f++i::j=A++B)) fun c hz20=>have hz20:=hz20;ko Nat Nat (List Int) aJ c [0,1,2,7,20,21,22] (fun e _=>([aW<|A.map aJ,aW<|B.map aJ,bj (bx F) [] [],ah,aW<|c.map aJ,nV c.length,nV e],[])) (fun e _ f i j=>([aW<|A.map aJ,aW<|B.map aJ,bj (bx F) [] [],aN 0 f 0 i none,aW<|c.map aJ,nV c.length,nV e],[aZ 1 true f<|j.map aw])) (fun e=>pq c=pq e) (fun e _ f i=>f=i.length∧(0:Nat)<i.length∧pq c=i++pq e) (by rfl) (fun _ _ _ _ _ e f=>Kh 0 e<|Kp 0 Gf<|Mj (List Int) [0,1,2,7] (OJ F A B c) (OK F A B c) (fun e=>Kl 1 37 bI<|Kf 0<|e [] (by(unfold ib;rw[f];exact YC.symm):[]=ib c)) fun e hz37=>have hz37:=hz37;have:=hz37▸hcl _ hz20;Mg 1<|Sm Nat Nat Nat (List PSpan) (1:Nat) [0,1,2,7,10,11] (fun c=>([aW<|A.map aJ,aW<|B.map aJ,bj (bx F) [] [],aW<|e.map aw,ah,nV c],[])) (fun c f i j=>([aW<|A.map aJ,aW<|B.map aJ,bj (bx F) [] [],aW<|e.map aw,aN 0 f 0 i none,nV c],[aZ 2 true f<|j.map aJ])) (fun c=>(1:Nat)≤c∧c≤2^30∧j8 g e=j8 g (e.drop<|c-1)) (fun c _ f i=>(1:Nat)≤c∧c≤2^30∧f=i.length∧i.length<c∧j8 g e=i++j8 g (e.drop<|c-1)) (fun c=>2^31-c) (fun c _ _ _=>2^31-c) (by exact⟨au _,by omega,rfl⟩) (fun c hx1 f i=>have hx1:=hx1;have:=hx1.1;have:=hx1.2.1;Kl 2 40 (ln aw e)<|Ka 0 (Int.ofNat c) (Int.ofNat e.length) (fun _ _=>Kl 2 46 (E0 c)<|Mx (bJ aw (by(simp only[aP,cJ,kf]at *;omega):c-1<(e).length))<|Kp 4 (hasA<|gD e<|c-1)<|Kp 1 (hasB<|gD e<|c-1)<|Mp (hF (gI A<|gD e<|c-1)<|gI B<|gD e<|c-1)<|Mb (op (gI A<|gD e<|c-1)<|gI B<|gD e<|c-1) (fun _=>Kx 3 (bJ aw (by(simp only[aP,cJ,kf]at *;omega):c<(e).length))<|Kl 6 43 (jC c)<|Kf 0<|i (c+1) 0 1 [PSpan.mk (gD e<|c-1)<|gD e c] (by exact⟨by(omega),by(simp only[aP]at *;omega),rfl,by(simp only[cP,gn];omega),Dh hx1.2.2 hx1.1 (by(simp only[aP]at *;omega)) (hgv _ _ (by assumption)) rfl⟩)<|by(omega)) fun _=>Kl 1 43 (jC c)<|Kf 0<|f (c+1) (by exact⟨by(omega),by(simp only[aP]at *;omega),Di hx1.2.2 hx1.1 (by(simp only[aP]at *;omega)) (hgv _ _ (by assumption)) rfl⟩)<|by(omega)) fun _ _=>Kp 0 wG<|Kf 0<|cK<|rr0<|List.map aJ<|g0 []) fun c i j k hx1 _ l=>have hx1:=hx1;have:=hx1.1;have:=hx1.2.1;Kl 2 40 (ln aw e)<|Ka 0 (Int.ofNat c) (Int.ofNat e.length) (fun _ _=>Kl 2 46 (E0 c)<|Mx (bJ aw (by(simp only[aP,cJ,kf]at *;omega):c-1<(e).length))<|Kp 4 (hasA<|gD e<|c-1)<|Kp 1 (hasB<|gD e<|c-1)<|Mp (hF (gI A<|gD e<|c-1)<|gI B<|gD e<|c-1)<|Mb (op (gI A<|gD e<|c-1)<|gI B<|gD e<|c-1) (fun _=>Kx 3 (bJ aw (by(simp only[aP,cJ,kf]at *;omega):c<(e).length))<|K1 2 .app (cn (aU i) (by(rw[cJ];first|exact f.1|exact hx1.2.2.1):j=(List.map aJ k).length) (by(refine dY (m:=2^31) ?_ ?_ ?_<;>first|omega|(simp only[cJ,cP,eV,gn];omega)|(have z:=congrArg List.length f.2.2;rw[kz,eV]at z;have z9:=hll _ hz20;have z2:=f.1;first|omega|(simp only[cP,gn];omega))|(have z:=hx1.2.2.2.1;have z2:=hx1.2.2.1;have z3:=hx1.2.1;first|omega|(simp only[cP,gn];omega))):small (j+1) 16=true))<|M1 (.obj 0<|aZ 2 true (i+1)<|List.map aJ<|k++[PSpan.mk (gD e<|c-1)<|gD e c]) (congrArg (aZ 2 true<|i+1)<|dQ (f:=aJ) (l:=k) (ws:=[PSpan.mk (gD e<|c-1)<|gD e c]))<|Kl 2 43 (jC c)<|Kf 0<|l (c+1) (i+1) (j+1) (k++[PSpan.mk (gD e<|c-1)<|gD e c]) (by exact⟨by(omega),by(simp only[aP]at *;omega),by rw[eV,←hx1.2.2.1];rfl,by(have z:=hx1.2.2.2.1;simp only[eV,cP,gn];omega),by rw[hx1.2.2.2.2,Dh rfl hx1.1 (by(simp only[aP]at *;omega)) (hgv _ _ (by assumption)) rfl];simp⟩)<|by(omega)) fun _=>Kl 1 43 (jC c)<|Kf 0<|l (c+1) i j k (by exact⟨by(omega),by(simp only[aP]at *;omega),hx1.2.2.1,by(have z:=hx1.2.2.2.1;omega),by rw[hx1.2.2.2.2,Di rfl hx1.1 (by(simp only[aP]at *;omega)) (hgv _ _ (by assumption)) rfl]⟩)<|by(omega)) fun _ _=>Mg 0<|M2 (.fsl 0 [] 66<|List.map aJ k) True.intro (cn (aU i) (tA aJ k j (by(omega):(k).length=j))<|aX VD k)<|Ml 66 (fg (List.map aJ k) false<|aX VD k)<|Mp (gG k<|by(omega))<|Kf 0<|cK<|rr0<|List.map aJ<|g0 k) (fun e _ _ _ f i _ j _ k _ l n=>have:=hll _ hz20;Kt 0 k<|Mx l<|Kl 11 33 (jC e)<|Mg 0<|M0 (.ren [1,0] [] [0,1,2,7,20,21,22])<|M1 (.frz 1 [0,1,2,7,20,21,22]) (et (aU true) True.intro)<|Mf<|j 0 2 [f.from_,f.to]<|by exact⟨rfl,by simp,by rw[n];rfl⟩) (fun _ _ e f i _ _ _ j k=>Kh 0 j<|Ke 0 (JX i e f (by(omega)) (by(omega))<|by(have z:=congrArg List.length k.2.2;rw[kz,eV]at z;have z9:=hll _ hz20;omega))<|Mj (List Int) [0,1,2,7] (OX F A B c) (OW F A B c) (fun j=>Ke 0 (Bn (be i) e f (by(rw[(jl _).length_eq];first|exact k.1|exact k.2.1|(have z:=congrArg List.length k.2.2;rw[kz,eV]at z;have z9:=hll _ hz20;omega))) (by(rw[(jl _).length_eq];first|exact k.1|exact k.2.1|(have z:=congrArg List.length k.2.2;rw[kz,eV]at z;have z9:=hll _ hz20;omega)))<|by(rw[(jl _).length_eq];first|exact k.1|exact k.2.1|(have z:=congrArg List.length k.2.2;rw[kz,eV]at z;have z9:=hll _ hz20;omega)))<|M2 (.fsl 0 [0,1,2] 37<|List.map aw<|List.take (an<|be i).length<|an (be i)++List.replicate ((be i).length -(an<|be i).length) 0) True.intro (cn (aU e) (yD (f:=aw) (l:=an (be i)++List.replicate ((be i).length -(an<|be i).length) 0) (n:=(an<|be i).length))<|aX Ji<|List.take (an<|be i).length<|an (be i)++List.replicate ((be i).length -(an<|be i).length) 0)<|Ml 37 (fg (List.map aw<|List.take (an<|be i).length<|an (be i)++List.replicate ((be i).length -(an<|be i).length) 0) false<|aX Ji<|List.take (an<|be i).length<|an (be i)++List.replicate ((be i).length -(an<|be i).length) 0)<|Kf 0<|j (List.take (an<|be i).length<|an (be i)++List.replicate ((be i).length -(an<|be i).length) 0) (by(unfold ib;rw[k.2.2];simp[pq]):List.take (an (be i)).length (an (be i)++List.replicate ((be i).length -(an (be i)).length) (0:Int))=ib c)) fun e hz37=>have hz37:=hz37;have:=hz37▸hcl _ hz20;Mg 1<|Sm Nat Nat Nat (List PSpan) (1:Nat) [0,1,2,7,10,11] (fun c=>([aW<|A.map aJ,aW<|B.map aJ,bj (bx F) [] [],aW<|e.map aw,ah,nV c],[])) (fun c f i j=>([aW<|A.map aJ,aW<|B.map aJ,bj (bx F) [] [],aW<|e.map aw,aN 0 f 0 i none,nV c],[aZ 2 true f<|j.map aJ])) (fun c=>(1:Nat)≤c∧c≤2^30∧j8 g e=j8 g (e.drop<|c-1)) (fun c _ f i=>(1:Nat)≤c∧c≤2^30∧f=i.length∧i.length<c∧j8 g e=i++j8 g (e.drop<|c-1)) (fun c=>2^31-c) (fun c _ _ _=>2^31-c) (by exact⟨au _,by omega,rfl⟩) (fun c hx1 f i=>have hx1:=hx1;have:=hx1.1;have:=hx1.2.1;Kl 2 40 (ln aw e)<|Ka 0 (Int.ofNat c) (Int.ofNat e.length) (fun _ _=>Kl 2 46 (E0 c)<|Mx (bJ aw (by(simp only[aP,cJ,kf]at *;omega):c-1<(e).length))<|Kp 4 (hasA<|gD e<|c-1)<|Kp 1 (hasB<|gD e<|c-1)<|Mp (hF (gI A<|gD e<|c-1)<|gI B<|gD e<|c-1)<|Mb (op (gI A<|gD e<|c-1)<|gI B<|gD e<|c-1) (fun _=>Kx 3 (bJ aw (by(simp only[aP,cJ,kf]at *;omega):c<(e).length))<|Kl 6 43 (jC c)<|Kf 0<|i (c+1) 0 1 [PSpan.mk (gD e<|c-1)<|gD e c] (by exact⟨by(omega),by(simp only[aP]at *;omega),rfl,by(simp only[cP,gn];omega),Dh hx1.2.2 hx1.1 (by(simp only[aP]at *;omega)) (hgv _ _ (by assumption)) rfl⟩)<|by(omega)) fun _=>Kl 1 43 (jC c)<|Kf 0<|f (c+1) (by exact⟨by(omega),by(simp only[aP]at *;omega),Di hx1.2.2 hx1.1 (by(simp only[aP]at *;omega)) (hgv _ _ (by assumption)) rfl⟩)<|by(omega)) fun _ _=>Kp 0 wG<|Kf 0<|cK<|rr0<|List.map aJ<|g0 []) fun c f i j hx1 _ l=>have hx1:=hx1;have:=hx1.1;have:=hx1.2.1;Kl 2 40 (ln aw e)<|Ka 0 (Int.ofNat c) (Int.ofNat e.length) (fun _ _=>Kl 2 46 (E0 c)<|Mx (bJ aw (by(simp only[aP,cJ,kf]at *;omega):c-1<(e).length))<|Kp 4 (hasA<|gD e<|c-1)<|Kp 1 (hasB<|gD e<|c-1)<|Mp (hF (gI A<|gD e<|c-1)<|gI B<|gD e<|c-1)<|Mb (op (gI A<|gD e<|c-1)<|gI B<|gD e<|c-1) (fun _=>Kx 3 (bJ aw (by(simp only[aP,cJ,kf]at *;omega):c<(e).length))<|K1 2 .app (cn (aU f) (by(rw[cJ];first|exact k.1|exact hx1.2.2.1):i=(List.map aJ j).length) (by(refine dY (m:=2^31) ?_ ?_ ?_<;>first|omega|(simp only[cJ,cP,eV,gn];omega)|(have z:=congrArg List.length k.2.2;rw[kz,eV]at z;have z9:=hll _ hz20;have z2:=k.1;first|omega|(simp only[cP,gn];omega))|(have z:=hx1.2.2.2.1;have z2:=hx1.2.2.1;have z3:=hx1.2.1;first|omega|(simp only[cP,gn];omega))):small (i+1) 16=true))<|M1 (.obj 0<|aZ 2 true (f+1)<|List.map aJ<|j++[PSpan.mk (gD e<|c-1)<|gD e c]) (congrArg (aZ 2 true<|f+1)<|dQ (f:=aJ) (l:=j) (ws:=[PSpan.mk (gD e<|c-1)<|gD e c]))<|Kl 2 43 (jC c)<|Kf 0<|l (c+1) (f+1) (i+1) (j++[PSpan.mk (gD e<|c-1)<|gD e c]) (by exact⟨by(omega),by(simp only[aP]at *;omega),by rw[eV,←hx1.2.2.1];rfl,by(have z:=hx1.2.2.2.1;simp only[eV,cP,gn];omega),by rw[hx1.2.2.2.2,Dh rfl hx1.1 (by(simp only[aP]at *;omega)) (hgv _ _ (by assumption)) rfl];simp⟩)<|by(omega)) fun _=>Kl 1 43 (jC c)<|Kf 0<|l (c+1) f i j (by exact⟨by(omega),by(simp only[aP]at *;omega),hx1.2.2.1,by(have z:=hx1.2.2.2.1;omega),by rw[hx1.2.2.2.2,Di rfl hx1.1 (by(simp only[aP]at *;omega)) (hgv _ _ (by assumption)) rfl]⟩)<|by(omega)) fun _ _=>Mg 0<|M2 (.fsl 0 [] 66<|List.map aJ j) True.intro (cn (aU f) (tA aJ j i (by(omega):(j).length=i))<|aX VD j)<|Ml 66 (fg (List.map aJ j) false<|aX VD j)<|Mp (gG j<|by(omega))<|Kf 0<|cK<|rr0<|List.map aJ<|g0 j) fun e _ f i j _ _ k l _ n _ o _ p q=>have:=hll _ hz20;Kt 0 o<|Mx p<|K1 8 .app (cn (aU f) (by(rw[cJ];first|exact q.1|exact hx1.2.2.1):i=(List.map aw j).length) (by(refine dY (m:=2^31) ?_ ?_ ?_<;>first|omega|(simp only[cJ,cP,eV,gn];omega)|(have z:=congrArg List.length q.2.2;rw[kz,eV]at z;have z9:=hll _ hz20;have z2:=q.1;first|omega|(simp only[cP,gn];omega))|(have z:=hx1.2.2.2.1;have z2:=hx1.2.2.1;have z3:=hx1.2.1;first|omega|(simp only[cP,gn];omega))):small (i+2) 8=true))<|M1 (.obj 0<|aZ 1 true (f+1)<|List.map aw<|j++[k.from_,k.to]) (congrArg (aZ 1 true<|f+1)<|dQ (f:=aw) (l:=j) (ws:=[k.from_,k.to]))<|Kl 1 33 (jC e)<|K1 0 (.frz 1 [0,1,2,7,20,21,22]) (et (tR 1 true (f+1) 1<|aX Ji<|j++[k.from_,k.to]) True.intro)<|Mf<|n (f+1) (i+2) (j++[k.from_,k.to])<|by exact⟨by rw[eV,←q.1];rfl,by simp,by rw[q.2.2,C1];simp⟩
theorem Wz(x y:Bool):kP 208 [.bool x,.bool y] (.bool (x||y)):=by
  have rr0 b' (h:(x||y)=b':=by simp only[aS,aj,bS, *]):=h;exact bD Tryz.func208<|Kb 2 x (fun a=>MV a<|Ky 0<|rr0 true) fun a=>Kw 0 a<|Ky 0<|rr0 y
theorem VK(x y:Bool):kP 209 [.bool x,.bool y] (.bool (x&&y)):=by
  have rr0 b' (h:(x&&y)=b':=by simp only[aS,aj,bS, *]):=h;exact bD Tryz.func209<|Kb 2 x (fun a=>Ku 0 a<|Ky 0<|rr0 y) fun a=>My a<|Ky 0<|rr0 false
theorem OT(a b:List PSpan)(ha:a.length<2^30)(hb:b.length<2^30):kP 147 [.ls (a.map aJ),.ls (b.map aJ)] (.ls ((sY (· || ·) a b).map aJ)):=by
  have h:=LP 208 (· || ·) Wz rfl a b ha hb
  exact bD Tryz.func147<|Kp 2 h<|Kf 0<|bc<|aW<|(sY (fun c d=>c||d) a b).map aJ
theorem Ql(a b:List PSpan)(ha:a.length<2^30)(hb:b.length<2^30):kP 150 [.ls (a.map aJ),.ls (b.map aJ)] (.ls ((sY (· && ·) a b).map aJ)):=by
  have h:=LP 209 (· && ·) VK rfl a b ha hb
  exact bD Tryz.func150<|Kp 2 h<|Kf 0<|bc<|aW<|(sY (fun c d=>c&&d) a b).map aJ
noncomputable def oC(a:List PSpan)(d:Int):List PSpan:=sY (· && ·) a [⟨0,d⟩]
noncomputable def pC(a:List PSpan)(d:Int):List PSpan:=sY (· || ·) (oC a d) [⟨d,1048577⟩]
theorem sk(a:List PSpan)(d:Int):NrmS (oC a d):=zd _
theorem ub(a:List PSpan)(d:Int):NrmS (pC a d):=zd _
theorem Fz(a:List PSpan)(d:Int)(ha:a.length<2^30):kP 122 [.ls (a.map aJ),iV d] (.ls ((oC a d).map aJ)):=by
  have h:kP 150 [.ls (a.map aJ),.ps [aJ ⟨0,d⟩] true] (.ls ((oC a d).map aJ)):=(Ql a [⟨0,d⟩] ha (by simp)).onArgs (.cons (Le.refl _) (.cons (Le.ps _ _ rfl) .nil))
  exact bD Tryz.func122<|Kp 4 h<|Kf 0<|bc<|aW<|(oC a d).map aJ
theorem RY(a:List PSpan)(d:Int)(ha:a.length<2^30):kP 120 [.ls (a.map aJ),iV d] (.ls ((pC a d).map aJ)):=by
  have h0:=Fz a d ha
  have hl:=(sk a d).len
  have h:kP 147 [.ls ((oC a d).map aJ),.ps [aJ ⟨d,1048577⟩] true] (.ls ((pC a d).map aJ)):=(OT (oC a d) [⟨d,1048577⟩] (by omega) (by simp)).onArgs (.cons (Le.refl _) (.cons (Le.ps _ _ rfl) .nil))
  exact bD Tryz.func120<|Kp 2 h0<|Kp 2 h<|Kf 0<|bc<|aW<|(pC a d).map aJ
noncomputable def sW(k:Int):Bool:=al k 7||al k 9
noncomputable def kI(k:Int):Bool:=sW k||al k 8
noncomputable def rP(k:Int):AV:=match sW k with|true=>.func (.func 120) [] []|false=>match al k 8 with|true=>.func (.func 122) [] []|false=>.nilf
theorem zA(k:Int):dV (some .nilf) true (bX false 1 [(0,1)] (iV k) [⟨iV 7,.func (.func 120) [] [],0⟩,⟨iV 9,.func (.func 120) [] [],1⟩,⟨iV 8,.func (.func 122) [] [],2⟩] 0)=some (.tuple [rP k,.bool (kI k)]):=by
  unfold rP kI sW
  simp only[bX,qh,Jc,kh]
  cases h1:al k 7<;>cases h2:al k 9<;>cases h3:al k 8<;>rfl
theorem O4{k:Int}(h:sW k=true):Le (.func (.func 120) [] []) (rP k):=by unfold rP;rw[h];exact Le.refl _
theorem SM{k:Int}(h:sW k=false)(h2:kI k=true):Le (.func (.func 122) [] []) (rP k):=by
  unfold kI at h2;rw[h,Bool.false_or]at h2
  unfold rP;rw[h,h2];exact Le.refl _
noncomputable def O5:List AEnt:=[⟨iV 7,.func (.func 120) [] [],0⟩,⟨iV 9,.func (.func 120) [] [],1⟩,⟨iV 8,.func (.func 122) [] [],2⟩]
theorem SI(x:PItem):kD 90 [] (av [.row 25 false 0 [eI x]]) (.map 1) (av [.row 25 false 0 [eI x],.map O5 3]):=by
  exact ej Tryz.func90 fun a=>Kf 6 a
theorem SL(s:PStart)(d o:PDeed):kD 90 [] (av [.row 3 false 0 [ak s],.row 28 false 0 [aY d],.row 28 false 0 [aY o]]) (.map 3) (av [.row 3 false 0 [ak s],.row 28 false 0 [aY d],.row 28 false 0 [aY o],.map O5 3]):=by
  exact ej Tryz.func90 fun a=>Kf 6 a
noncomputable def rJ(x:PItem)(a i:Int):Bool:=al x.act a&&(match al x.kind 11 with|true=>al x.item i|false=>kI x.kind&&(al x.item i||al x.item (-1)))
theorem M5(x:PItem)(a i:Int):kP 91 [eI x,iV a,iV i] (.bool (rJ x a i)):=by
  have hlk:=zA
  have rr0 b' (h:(rJ x a i)=b':=by unfold rJ;generalize al x.act a=p1 at *;generalize al x.kind 11=p2 at *;generalize al x.item i=p3 at *;generalize al x.item (-1)=p4 at *;generalize kI x.kind=p5 at *;simp only[aS,aj,bS, *]):=h;let q:=[ab [iV x.kind,aW (x.at_.map az),aW (x.to.map az),iV x.where_,iV x.nth_,iV x.unit.act,iV x.unit.item,iV x.unit.n,iV x.unit.kind,ax x.unit.label,aW (x.unit.head.map aQ),aW (x.unit.words.map aQ),aW (x.unit.kids.map aK),aW (x.old.map m0),aW (x.new.map m0),ax x.label,ax x.for_,iV x.start.kind,iV x.start.day,ax x.start.event,iV x.act,iV x.item,iV x.day,ax x.event,aW (x.by_.map NT)]];let q1:=bj (bx 120) [] [];exact bD Tryz.func91<|Kc 5 x.act a (fun _ _=>Ky 0<|rr0 false) fun _ _=>Kj 2 x.kind 11 (fun _ _=>Kf 4<|ca<|rr0<|al x.item i) fun _ _=>M3 (.efx true (AV.map 1)<|av [aZ 25 false 0 q,AObj.map [AEnt.mk (iV 7) q1 0,AEnt.mk (iV 9) q1 1,AEnt.mk (iV 8) (bj (bx 122) [] []) 2] 3]) (et rt ti) (et (aU<|some<|aZ 25 false 0 q) ti) (SI x)<|K1 1 (.look<|bO [rP x.kind,dD<|kI x.kind]) (hlk x.kind)<|Kb 6 (kI x.kind) (fun b=>Kt 0 b<|Kt 0 b<|Kt 0 b<|Kt 0 b<|Kj 0 x.item i (fun c _=>Mt c<|Mt c<|Mt b<|MV c<|MV b<|Ky 0<|rr0 true) fun c _=>Kh 0 c<|Kh 0 c<|Kt 0 b<|My c<|MV b<|Kf 0<|ca<|rr0<|al x.item (-1)) fun b=>Mh b<|Mh b<|Mh b<|Mh b<|Mh b<|My b<|Ky 0<|rr0 false
noncomputable abbrev eQ(nm:aI):AObj:=.row 1 false 0 [.str nm]
noncomputable def sV(nm:aI)(d:PDeed):Bool:=al d.it.kind 10&&dT d.it.event nm
theorem Rq(nm:aI)(d:PDeed):kD 149 [aY d,.ptr 0 0 0 0] (av [eQ nm]) (.bool (sV nm d)) (av [eQ nm]):=by
  let q:=av [aZ 1 false 0 [ax nm]];exact Oi Tryz.func149<|Kj 6 d.it.kind 10 (fun a _=>Kt 0 a<|Kt 0 a<|Kt 0 a<|Kt 0 a<|Ku 0 a<|K1 0 (.frz 1 [3]) (et rt ti)<|Mf<|et (by unfold sV;generalize al d.it.kind 10=p1 at *;generalize dT d.it.event nm=p2 at *;simp only[aS,aj,bS, *]:(AV.bool (dT d.it.event nm))=(AV.bool (sV nm d)))<|aU q) fun a _=>Mh a<|Mh a<|Mh a<|Mh a<|My a<|K1 0 (.frz 1 [3]) (et rt ti)<|Mf<|et (by unfold sV;generalize al d.it.kind 10=p1 at *;generalize dT d.it.event nm=p2 at *;simp only[aS,aj,bS, *]:(AV.bool false)=(AV.bool (sV nm d)))<|aU q
noncomputable def jY(nm:aI):List PDeed→Nat→Int
  |[],_=> -1
  |d::r,i=>match sV nm d with|true=>Int.ofNat i|false=>jY nm r (i+1)
theorem Lb(nm:aI):∀(l:List PDeed)(i:Nat),jY nm l i<Int.ofNat (i+l.length)∧(0≤jY nm l i∨jY nm l i= -1)
  |[],i=>⟨by simp only[jY,oN];omega,.inr rfl⟩
  | d::r,i=>by
    have:=Lb nm r (i+1)
    cases h:sV nm d<;>simp only[jY,h,oN,lC]at * <;>omega
theorem Yg{nm:aI}{d:PDeed}{r:List PDeed}{i:Nat}(h:sV nm d=true):jY nm (d::r) i=Int.ofNat i:=by simp only[jY,h]
theorem Yh{nm:aI}{d:PDeed}{r:List PDeed}{i:Nat}(h:sV nm d=false):jY nm (d::r) i=jY nm r (i+1):=by simp only[jY,h]
theorem CD(nm:aI)(l:List PDeed)(hl:l.length<2^40):kD 148 [.ls (l.map aY),.func (.func 149) [] [.ptr 0 0 0 0]] (av [eQ nm]) (iV (jY nm l 0)) (av [eQ nm]):=by
  let q:=av [aZ 1 false 0 [ax nm]];exact Oi Tryz.func148<|Kl 2 7 (ln aY l)<|Mg 0<|vZ aY l [0,1,7,8] (fun a _=>([aW<|l.map aY,bj (bx 149) [] [bU 0 0 0 0],nV l.length,nV a],[aZ 1 false 0 [ax nm]])) (fun a=>jY nm l (0:Nat)=jY nm a (l.length-a.length)) (by(rw[Nat.sub_self])) (fun _ _ _ _ _ a b=>Kh 0 a<|Kf 0<|et (by(rw[b];rfl):(iV (-1))=(iV (jY nm l 0)))<|aU q) fun a _ b _ c d e f g _ h i=>have:=fS b f;Kt 0 g<|Kx 4 h<|Ke 0 (Rq nm c)<|Mb (sV nm c) (fun _=>Kf 1<|et (by(rw[i,Yg (by assumption)];congr 2;have z:=Io (b.trans f) (by simp) (by simp only[lC];omega:(l.length-(d.length+1))+(c::d).length=l.length);exact z):(nV a)=(iV (jY nm l 0)))<|aU q) fun _=>Kl 0 18 (dK a)<|Kf 0<|e<|by(rw[i,Yh (by assumption)];congr 1;have:=fS b f;simp only[lC];omega)
theorem RU(d:Int):kP 120 [.nils,iV d] (.ls ((pC [] d).map aJ)):=(RY [] d (by simp)).onArgs (.cons Le.nils (.cons (Le.refl _) .nil))
theorem Jy(nm:aI)(l:List PDeed)(hl:l.length<2^40)(h:ao (jY nm l 0) 0=true):kP 121 [.str nm,.ls (l.map aY)] (.tuple [iV 0,.bool false]):=by
  exact bD Tryz.func121<|Ke 4 (CD nm l hl)<|Kt 2 h<|Kf 1<|bc<|bO [iV 0,dD false]
theorem Ja(nm:aI)(l:List PDeed)(hl:l.length<2^40)(h:ao (jY nm l 0) 0=false):kP 121 [.str nm,.ls (l.map aY)] (.tuple [iV (gD l (jY nm l 0).toNat).it.day,.bool true]):=by
  have g1:=aB h
  have g2:=(Lb nm l 0).1
  exact bD Tryz.func121<|Ke 4 (CD nm l hl)<|Kh 2 h<|Kl 1 13 (BK (x:=jY nm l 0) oA)<|Mx (bJ aY (by(simp only[oN,lM,lS]at *;omega):(jY nm l 0).toNat<(l).length))<|Kf 4<|bc<|bO [iV (gD l (jY nm l 0).toNat).it.day,dD true]
noncomputable def lY(s:PStart)(l:List PDeed):List PSpan:=match al s.kind 1 with|true=>pC [] s.day|false=>match al s.kind 3 with|true=>(match ao (jY s.event l 0) 0 with|true=>[]|false=>pC [] (gD l (jY s.event l 0).toNat).it.day)|false=>[]
theorem Ns(s:PStart)(l:List PDeed)(hl:l.length<2^40)(hi:ao (jY s.event l 0) 0=true):kP 88 [ak s,.ls (l.map aY)] (.ls ((lY s l).map aJ)):=by
  have he:=Jy s.event l hl hi
  have e:lY s l=match al s.kind 1 with|true=>pC [] s.day|false=>[]:=(by unfold lY;rw[hi];cases al s.kind 1<;>cases al s.kind 3<;>rfl)
  rw[e]
  have rr0 b' (h:((match al s.kind 1 with|true=>pC [] s.day|false=>[]).map aJ)=b':=by generalize al s.kind 1=p1 at *;(rw[h0]);try rfl):=h;exact bD Tryz.func88<|Kj 5 s.kind 1 (fun h0 _=>Kp 1 (RU s.day)<|Kf 0<|cK<|rr0<|(pC [] s.day).map aJ) fun h0 _=>Kj 1 s.kind 3 (fun _ _=>Kp 2 he<|Kf 7 (Le.lsn<|rr0 []:Le _ (ah))) fun _ _=>Kf 0 (Le.lsn<|rr0 []:Le _ (ah))
theorem Nt(s:PStart)(l:List PDeed)(hl:l.length<2^40)(hi:ao (jY s.event l 0) 0=false):kP 88 [ak s,.ls (l.map aY)] (.ls ((lY s l).map aJ)):=by
  have he:=Ja s.event l hl hi
  have e:lY s l=match al s.kind 1 with|true=>pC [] s.day|false=>match al s.kind 3 with|true=>pC [] (gD l (jY s.event l 0).toNat).it.day |false=>[]:=(by unfold lY;rw[hi])
  rw[e]
  have rr0 b' (h:((match al s.kind 1 with|true=>pC [] s.day|false=>match al s.kind 3 with|true=>pC [] (gD l (jY s.event l 0).toNat).it.day |false=>[]).map aJ)=b':=by generalize al s.kind 1=p1 at *;generalize al s.kind 3=p3 at *;(rw[h0]);(first|rw[h1]|skip);try rfl):=h;exact bD Tryz.func88<|Kj 5 s.kind 1 (fun h0 _=>Kp 1 (RU s.day)<|Kf 0<|cK<|rr0<|(pC [] s.day).map aJ) fun h0 _=>Kj 1 s.kind 3 (fun h1 _=>Kp 2 he<|Kp 7 (RU (gD l (jY s.event l 0).toNat).it.day)<|Kf 0<|cK<|rr0<|(pC [] (gD l (jY s.event l 0).toNat).it.day).map aJ) fun h1 _=>Kf 0 (Le.lsn<|rr0 []:Le _ (ah))
theorem JJ(s:PStart)(l:List PDeed)(hl:l.length<2^40):kP 88 [ak s,.ls (l.map aY)] (.ls ((lY s l).map aJ)):=by
  cases hi:ao (jY s.event l 0) 0
  · exact Nt s l hl hi
  · exact Ns s l hl hi
noncomputable def sd(d o:PDeed)(days:List PSpan):List PSpan:=match kI o.it.kind&&rJ o.it d.act d.item with|true=>(match sW o.it.kind with|true=>pC days o.it.day|false=>oC days o.it.day)|false=>days
noncomputable def lF(d:PDeed):List PDeed→List PSpan→List PSpan
  |[],days=>days
  |o::r,days=>lF d r (sd d o days)
noncomputable def ap(s:PStart)(d:PDeed)(l:List PDeed):List PSpan:=match ao d.it.kind 0||ao 6 d.it.kind with|true=>[]|false=>lF d l (lY (effS s d.it.start) l)
theorem Nu(s:PStart)(l:List PDeed):(lY s l).length≤1048577:=by
  have h:=fun d=>(ub [] d).len
  unfold lY
  cases al s.kind 1<;>cases al s.kind 3<;>cases ao (jY s.event l 0) 0<;>simp only[lN]<;>first|exact h _|omega
theorem gJ(s:PStart)(d:PDeed)(l:List PDeed)(hl:l.length<2^40):kP 70 [ak s,aY d,.ls (l.map aY)] (.ls ((ap s d l).map aJ)):=by
  have hlk:=zA
  have hle1:∀k,sW k=true→Le (.func (.func 120) [] []) (rP k):=fun k h=>O4 h
  have hle2:∀k,sW k=false→kI k=true→Le (.func (.func 122) [] []) (rP k):=fun k h h2=>SM h h2
  have hil:=Nu (effS s d.it.start) l
  have hin:∀b,(ao d.it.kind 0||ao 6 d.it.kind)=b→ap s d l=match b with|true=>[]|false=>lF d l (lY (effS s d.it.start) l):=fun b h=>by unfold ap;rw[h]
  have hst:∀(o:PDeed)(r:List PDeed)(days:List PSpan),lF d (o::r) days=lF d r (sd d o days):=fun o r days=>rfl
  have rr0 b' (h:((ap s d l).map aJ)=b':=by first|(rw[hin true (by simp only[aS,aj,bS, *];try rfl)];rfl)|(rw[hin false (by simp only[aS,aj,bS, *];try rfl)];first|exact congrArg _ hj0.2|exact congrArg _ hj0.2.symm|(rw[hj0.2];rfl))):=h;let q1:=[ab [iV d.act,iV d.item,iV d.day,iV d.it.kind,aW (d.it.at_.map az),aW (d.it.to.map az),iV d.it.where_,iV d.it.nth_,iV d.it.unit.act,iV d.it.unit.item,iV d.it.unit.n,iV d.it.unit.kind,ax d.it.unit.label,aW (d.it.unit.head.map aQ),aW (d.it.unit.words.map aQ),aW (d.it.unit.kids.map aK),aW (d.it.old.map m0),aW (d.it.new.map m0),ax d.it.label,ax d.it.for_,iV d.it.start.kind,iV d.it.start.day,ax d.it.start.event,iV d.it.act,iV d.it.item,iV d.it.day,ax d.it.event,aW (d.it.by_.map NT)]];let q2:=[ab [iV s.kind,iV s.day,ax s.event]];let q3:=bj (bx 120) [] [];exact bD Tryz.func70<|Ka 7 d.it.kind 0 (fun a _=>Mt a<|Mt a<|Mt a<|MV a<|Kf 1 (Le.lsn<|rr0 []:Le _ (ah))) fun a _=>Kh 0 a<|Kh 0 a<|Kh 0 a<|Kw 0 a<|Mb (ao 6 d.it.kind) (fun a=>have:=am a;Kf 0 (Le.lsn<|rr0 []:Le _ (ah))) fun a=>have:=aB a;Kp 3 (Hw s d.it.start)<|Kp 0 (JJ (effS s d.it.start) l hl)<|Kl 2 30 (ln aY l)<|Mg 0<|Vk (0:Nat) l (lY (effS s d.it.start) l) [4,7,29,30,31] (fun a _ c=>([bU 1 0 0 0,aW<|c.map aJ,aW<|l.map aY,nV l.length,nV a],[aZ 3 false 0 [ab [iV s.kind,iV s.day,ax s.event]],aZ 28 false 0 [ab [iV d.act,iV d.item,iV d.day,iV d.it.kind,aW<|d.it.at_.map az,aW<|d.it.to.map az,iV d.it.where_,iV d.it.nth_,iV d.it.unit.act,iV d.it.unit.item,iV d.it.unit.n,iV d.it.unit.kind,ax d.it.unit.label,aW<|d.it.unit.head.map aQ,aW<|d.it.unit.words.map aQ,aW<|d.it.unit.kids.map aK,aW<|d.it.old.map m0,aW<|d.it.new.map m0,ax d.it.label,ax d.it.for_,iV d.it.start.kind,iV d.it.start.day,ax d.it.start.event,iV d.it.act,iV d.it.item,iV d.it.day,ax d.it.event,aW<|d.it.by_.map NT]]])) (fun a c e=>(l).drop a=c∧e.length≤1048577∧lF d l (lY (effS s d.it.start) l)=lF d c e) (fun _ a _=>a.length) (et rfl<|by(exact⟨hil,rfl⟩)) fun a c e f g=>Mc c (fun a=>have c:=eP f.1 a;have hj0:=gv (J:=fun a c=>c.length≤1048577∧lF d l (lY (effS s d.it.start) l)=lF d a c) (a:=e) a f.2;Kh 0 c<|Kf 1<|cK<|rr0<|e.map aJ) fun c i j=>let m:=[ab [iV c.act,iV c.item,iV c.day,iV c.it.kind,aW<|c.it.at_.map az,aW<|c.it.to.map az,iV c.it.where_,iV c.it.nth_,iV c.it.unit.act,iV c.it.unit.item,iV c.it.unit.n,iV c.it.unit.kind,ax c.it.unit.label,aW<|c.it.unit.head.map aQ,aW<|c.it.unit.words.map aQ,aW<|c.it.unit.kids.map aK,aW<|c.it.old.map m0,aW<|c.it.new.map m0,ax c.it.label,ax c.it.for_,iV c.it.start.kind,iV c.it.start.day,ax c.it.start.event,iV c.it.act,iV c.it.item,iV c.it.day,ax c.it.event,aW<|c.it.by_.map NT]];have n:=fY f.1 j;have:=am n;have p:=eO (enc:=aY) f.1 j;have hj0:=cw (J:=fun a c=>c.length≤1048577∧lF d l (lY (effS s d.it.start) l)=lF d a c) (a:=e) j f.2;Kt 0 n<|Mx p<|Mg 2<|M3 (.efx true (AV.map 3)<|av [aZ 3 false 0 q2,aZ 28 false 0 q1,aZ 28 false 0 m,AObj.map [AEnt.mk (iV 7) q3 0,AEnt.mk (iV 9) q3 1,AEnt.mk (iV 8) (bj (bx 122) [] []) 2] 3]) (jJ rt rt rt ti) (jJ (aU<|some<|aZ 28 false 0 m) (aU<|some<|aZ 28 false 0 q1) (aU<|some<|aZ 3 false 0 q2) ti) (SL s d c)<|K1 2 (.look<|bO [rP c.it.kind,dD<|kI c.it.kind]) (hlk c.it.kind)<|Kb 6 (kI c.it.kind) (fun m=>Kt 0 m<|Kt 0 m<|Kt 0 m<|Kt 0 m<|Kt 0 m<|Kt 0 m<|Mp (M5 c.it d.act d.item)<|MV m<|Mb (rJ c.it d.act d.item) (fun _=>Ks 4 (sW c.it.kind) (fun m=>Ml 53 (hle1 c.it.kind m)<|Mp (RY e c.it.day oA)<|Kl 1 59 (dK a)<|K1 0 (.frz 2 [4,7,29,30,31]) (cn rt rt ti)<|Mf<|g (a+1) i (pC e c.it.day) (et (bV f.1 j)<|by exact⟨(ub _ _).len,by rw[hj0.2,hst];simp only[sd, *];rfl⟩)<|dn j) fun n=>Ml 53 (hle2 c.it.kind n m)<|Mp (Fz e c.it.day oA)<|Kl 1 59 (dK a)<|K1 0 (.frz 2 [4,7,29,30,31]) (cn rt rt ti)<|Mf<|g (a+1) i (oC e c.it.day) (et (bV f.1 j)<|by exact⟨(sk _ _).len,by rw[hj0.2,hst];simp only[sd, *];rfl⟩)<|dn j) fun _=>Kl 0 59 (dK a)<|K1 0 (.frz 2 [4,7,29,30,31]) (cn rt rt ti)<|Mf<|g (a+1) i e (et (bV f.1 j)<|by exact⟨hj0.1,by rw[hj0.2,hst];simp only[sd,aS,aj,bS, *];try rfl⟩)<|dn j) fun c=>Mh c<|Mh c<|Mh c<|Mh c<|Mh c<|Mh c<|My c<|Kl 1 59 (dK a)<|K1 0 (.frz 2 [4,7,29,30,31]) (cn rt rt ti)<|Mf<|g (a+1) i e (et (bV f.1 j)<|by exact⟨hj0.1,by rw[hj0.2,hst];simp only[sd,aS,aj,bS, *];try rfl⟩)<|dn j
noncomputable abbrev fG(d:Int):AObj:=.row 1 false 0 [iV d]
noncomputable abbrev qa:AObj:=.row 1 false 0 [.nils]
noncomputable abbrev pE(i ep n:Nat):AObj:=.row 1 false 0 [.slice i ep 0 n none]
noncomputable abbrev bm(m:List (Int×PStart)):AObj:=.map (aT ak m 0) m.length
noncomputable abbrev dc(d:PDeed):AObj:=.row 28 false 0 [aY d]
noncomputable abbrev pB(ep:Nat)(l:List PDeed):AObj:=.row 28 true ep (l.map aY)
def dG:PStart:=⟨0,0,[]⟩
def aC(m:List (Int×PStart))(k:Int):PStart:=(eX k m).getD dG
theorem o6(m:List (Int×PStart))(k:Int):dV (some (.agg [iV 0,iV 0,.str []])) false (bX false 1 [(0,1)] (iV k) (aT ak m 0) 0)=some (ak (aC m k)):=by
  rw[zC]
  cases h:eX k m<;>simp only[aC,h,Option.getD]<;>rfl
theorem rQ(m:List (Int×PStart))(a:PAct):oB (aT ak m 0) m.length (iV a.number) (.agg [iV a.start.kind,iV a.start.day,.str a.start.event]) (bX false 1 [(0,1)] (iV a.number) (aT ak m 0) 0)=some (aT ak (di a.number a.start m) 0,(di a.number a.start m).length):=n4 (f:=ak) a.number a.start m
/-- The starts of the acts by their numbers. -/
def kT(l:List PAct)(m:List (Int×PStart)):List (Int×PStart):=l.foldl (fun m a=>di a.number a.start m) m
theorem jL(s:PStart)(d:PDeed)(l:List PDeed):NrmS (ap s d l):=by
  have h1:∀(s:PStart),NrmS (lY s l):=fun s=>by
    unfold lY
    cases al s.kind 1<;>cases al s.kind 3<;>cases ao (jY s.event l 0) 0<;>first|exact x8|exact ub _ _
  have h2:∀(r:List PDeed)(days:List PSpan),NrmS days→NrmS (lF d r days):=by
    intro r
    induction r with
    |nil=>intro days h;exact h
    | cons o r ih=>
      intro days h
      refine ih _ ?_
      unfold sd
      cases kI o.it.kind&&rJ o.it d.act d.item<;>cases sW o.it.kind<;>first|exact h|exact ub _ _|exact sk _ _
  unfold ap
  cases ao d.it.kind 0||ao 6 d.it.kind
  · exact h2 l _ (h1 _)
  · exact x8
theorem sR(s:PStart)(d:PDeed)(l:List PDeed)(day:Int):kP 49 [.ls ((ap s d l).map aJ),iV day] (.bool (gI (ap s d l) day)):=by
  have hn:=jL s d l
  have h:=Hh (ap s d l) day (nK hn.len (by decide))
  rwa[show g0 (ap s d l)=ap s d l from(K6 hn).symm]at h
/-- Whether an amendment is told: its purpose, its days. -/
noncomputable def W0(p:aI)(d:PDeed):Bool:=dT d.it.for_ []||dT d.it.for_ p
noncomputable def wE(day:Int)(p:aI)(m:List (Int×PStart))(ds:List PDeed)(d:PDeed):Bool:=W0 p d&&gI (ap (aC m d.act) d ds) day
noncomputable def qv(day:Int)(p:aI)(m:List (Int×PStart))(ds l:List PDeed):List PDeed:=l.filter fun d=>ch d.it.kind&&wE day p m ds d
theorem ZD(d:PDeed)(ss:List PSpan)(day:Int)(p:aI)(m:List (Int×PStart))(hc:kP 49 [.ls (ss.map aJ),iV day] (.bool false)):kD 48 [aY d,.ls (ss.map aJ),.ptr 1 0 0 0,.ptr 0 0 0 0,.ptr 2 0 0 0] (av [fG day,eQ p,qa,bm m,dc d]) (.tuple []) (av [fG day,eQ p,qa,bm m,dc d]):=by
  exact ej Tryz.func48 fun a=>Kb 5 (dT d.it.for_ (ByteArray.mk #[]).data.toList) (fun b=>Mt b<|Mt b<|Mt b<|Mt b<|MV b<|Kp 2 hc<|K1 1 (.frz 5 []) (vP rt (tM m.length 5<|aa (f:=ak) (fun _=>rfl) m 0) rt rt rt ti)<|Mf a) fun b=>Kh 0 b<|Kh 0 b<|Kh 0 b<|Kh 0 b<|Kw 0 b<|Kb 0 (dT d.it.for_ p) (fun b=>Kt 0 b<|Kt 0 b<|Mp hc<|MV b<|K1 0 (.frz 5 []) (vP rt (tM m.length 5<|aa (f:=ak) (fun _=>rfl) m 0) rt rt rt ti)<|Mf a) fun b=>Mh b<|Mh b<|My b<|K1 0 (.frz 5 []) (vP rt (tM m.length 5<|aa (f:=ak) (fun _=>rfl) m 0) rt rt rt ti)<|Mf a
theorem ZC(d:PDeed)(ss:List PSpan)(day:Int)(p:aI)(m:List (Int×PStart))(h1:dT d.it.for_ []=false)(h2:dT d.it.for_ p=false):kD 48 [aY d,.ls (ss.map aJ),.ptr 1 0 0 0,.ptr 0 0 0 0,.ptr 2 0 0 0] (av [fG day,eQ p,qa,bm m,dc d]) (.tuple []) (av [fG day,eQ p,qa,bm m,dc d]):=by
  exact ej Tryz.func48 fun a=>Kh 5 h1<|Kh 0 h1<|Kh 0 h1<|Kh 0 h1<|Kh 0 h1<|Kw 0 h1<|Kh 0 h2<|Mh h2<|Mh h2<|My h2<|K1 0 (.frz 5 []) (vP rt (tM m.length 5<|aa (f:=ak) (fun _=>rfl) m 0) rt rt rt ti)<|Mf a
theorem ZB(d:PDeed)(ss:List PSpan)(day:Int)(p:aI)(m:List (Int×PStart))(hc:kP 49 [.ls (ss.map aJ),iV day] (.bool true))(h1:dT d.it.for_ []=true):kD 48 [aY d,.ls (ss.map aJ),.ptr 1 0 0 0,.ptr 0 0 0 0,.ptr 2 0 0 0] (av [fG day,eQ p,qa,bm m,dc d]) (.tuple []) (av [fG day,eQ p,pE 5 0 1,bm m,dc d,pB 0 [d]]):=by
  exact ej Tryz.func48 fun a=>Kt 5 h1<|Mt h1<|Mt h1<|Mt h1<|Mt h1<|MV h1<|Kp 2 hc<|K1 6 (.ren [0,1,2,3,4,6,5] [3] []) (tN m.length<|aa (f:=ak) (fun _=>rfl) m 0)<|M1 (.frz 6 []) (E1 rt rt (tM m.length 6<|aa (f:=ak) (fun _=>rfl) m 0) rt rt rt ti)<|Mf a
theorem ZA(d:PDeed)(ss:List PSpan)(day:Int)(p:aI)(m:List (Int×PStart))(hc:kP 49 [.ls (ss.map aJ),iV day] (.bool true))(h1:dT d.it.for_ []=false)(h2:dT d.it.for_ p=true):kD 48 [aY d,.ls (ss.map aJ),.ptr 1 0 0 0,.ptr 0 0 0 0,.ptr 2 0 0 0] (av [fG day,eQ p,qa,bm m,dc d]) (.tuple []) (av [fG day,eQ p,pE 5 0 1,bm m,dc d,pB 0 [d]]):=by
  exact ej Tryz.func48 fun a=>Kh 5 h1<|Kh 0 h1<|Kh 0 h1<|Kh 0 h1<|Kh 0 h1<|Kw 0 h1<|Kt 0 h2<|Kt 0 h2<|Kt 0 h2<|Mp hc<|MV h2<|K1 5 (.ren [0,1,2,3,4,6,5] [3] []) (tN m.length<|aa (f:=ak) (fun _=>rfl) m 0)<|M1 (.frz 6 []) (E1 rt rt (tM m.length 6<|aa (f:=ak) (fun _=>rfl) m 0) rt rt rt ti)<|Mf a
theorem Zu(d:PDeed)(ss:List PSpan)(day:Int)(p:aI)(m:List (Int×PStart))(ep n:Nat)(out:List PDeed)(hc:kP 49 [.ls (ss.map aJ),iV day] (.bool false)):kD 48 [aY d,.ls (ss.map aJ),.ptr 1 0 0 0,.ptr 0 0 0 0,.ptr 2 0 0 0] (av [fG day,eQ p,pE 4 ep n,bm m,pB ep out,dc d]) (.tuple []) (av [fG day,eQ p,pE 4 ep n,bm m,pB ep out,dc d]):=by
  exact ej Tryz.func48 fun a=>Kb 5 (dT d.it.for_ (ByteArray.mk #[]).data.toList) (fun b=>Mt b<|Mt b<|Mt b<|Mt b<|MV b<|Kp 2 hc<|K1 1 (.frz 6 []) (E1 rt (tR 28 true ep 6<|aX xj out) (tM m.length 6<|aa (f:=ak) (fun _=>rfl) m 0) rt rt rt ti)<|Mf a) fun b=>Kh 0 b<|Kh 0 b<|Kh 0 b<|Kh 0 b<|Kw 0 b<|Kb 0 (dT d.it.for_ p) (fun b=>Kt 0 b<|Kt 0 b<|Mp hc<|MV b<|K1 0 (.frz 6 []) (E1 rt (tR 28 true ep 6<|aX xj out) (tM m.length 6<|aa (f:=ak) (fun _=>rfl) m 0) rt rt rt ti)<|Mf a) fun b=>Mh b<|Mh b<|My b<|K1 0 (.frz 6 []) (E1 rt (tR 28 true ep 6<|aX xj out) (tM m.length 6<|aa (f:=ak) (fun _=>rfl) m 0) rt rt rt ti)<|Mf a
theorem Zt(d:PDeed)(ss:List PSpan)(day:Int)(p:aI)(m:List (Int×PStart))(ep n:Nat)(out:List PDeed)(h1:dT d.it.for_ []=false)(h2:dT d.it.for_ p=false):kD 48 [aY d,.ls (ss.map aJ),.ptr 1 0 0 0,.ptr 0 0 0 0,.ptr 2 0 0 0] (av [fG day,eQ p,pE 4 ep n,bm m,pB ep out,dc d]) (.tuple []) (av [fG day,eQ p,pE 4 ep n,bm m,pB ep out,dc d]):=by
  exact ej Tryz.func48 fun a=>Kh 5 h1<|Kh 0 h1<|Kh 0 h1<|Kh 0 h1<|Kh 0 h1<|Kw 0 h1<|Kh 0 h2<|Mh h2<|Mh h2<|My h2<|K1 0 (.frz 6 []) (E1 rt (tR 28 true ep 6<|aX xj out) (tM m.length 6<|aa (f:=ak) (fun _=>rfl) m 0) rt rt rt ti)<|Mf a
theorem Zs(d:PDeed)(ss:List PSpan)(day:Int)(p:aI)(m:List (Int×PStart))(ep n:Nat)(out:List PDeed)(hn:n=out.length)(hn2:n<2^20)(hc:kP 49 [.ls (ss.map aJ),iV day] (.bool true))(h1:dT d.it.for_ []=true):kD 48 [aY d,.ls (ss.map aJ),.ptr 1 0 0 0,.ptr 0 0 0 0,.ptr 2 0 0 0] (av [fG day,eQ p,pE 4 ep n,bm m,pB ep out,dc d]) (.tuple []) (av [fG day,eQ p,pE 4 (ep+1) (n+1),bm m,pB (ep+1) (out++[d]),dc d]):=by
  exact ej Tryz.func48 fun a=>Kt 5 h1<|Mt h1<|Mt h1<|Mt h1<|Mt h1<|MV h1<|Kp 2 hc<|K1 4 .app (cn (aU ep) (by(rw[lM];exact hn):n=(out.map aY).length) (by exact dY (m:=2^21) (by omega) (by decide) (by decide):small (n+1) 392=true))<|M1 (.obj 4<|aZ 28 true (ep+1)<|(out++[d]).map aY) (congrArg (aZ 28 true<|ep+1)<|dQ (f:=aY) (l:=out) (ws:=[d]))<|K1 0 (.frz 6 []) (E1 rt (tR 28 true (ep+1) 6<|aX xj<|out++[d]) (tM m.length 6<|aa (f:=ak) (fun _=>rfl) m 0) rt rt rt ti)<|Mf a
theorem Zr(d:PDeed)(ss:List PSpan)(day:Int)(p:aI)(m:List (Int×PStart))(ep n:Nat)(out:List PDeed)(hn:n=out.length)(hn2:n<2^20)(hc:kP 49 [.ls (ss.map aJ),iV day] (.bool true))(h1:dT d.it.for_ []=false)(h2:dT d.it.for_ p=true):kD 48 [aY d,.ls (ss.map aJ),.ptr 1 0 0 0,.ptr 0 0 0 0,.ptr 2 0 0 0] (av [fG day,eQ p,pE 4 ep n,bm m,pB ep out,dc d]) (.tuple []) (av [fG day,eQ p,pE 4 (ep+1) (n+1),bm m,pB (ep+1) (out++[d]),dc d]):=by
  exact ej Tryz.func48 fun a=>Kh 5 h1<|Kh 0 h1<|Kh 0 h1<|Kh 0 h1<|Kh 0 h1<|Kw 0 h1<|Kt 0 h2<|Kt 0 h2<|Kt 0 h2<|Mp hc<|MV h2<|K1 3 .app (cn (aU ep) (by(rw[lM];exact hn):n=(out.map aY).length) (by exact dY (m:=2^21) (by omega) (by decide) (by decide):small (n+1) 392=true))<|M1 (.obj 4<|aZ 28 true (ep+1)<|(out++[d]).map aY) (congrArg (aZ 28 true<|ep+1)<|dQ (f:=aY) (l:=out) (ws:=[d]))<|K1 0 (.frz 6 []) (E1 rt (tR 28 true (ep+1) 6<|aX xj<|out++[d]) (tM m.length 6<|aa (f:=ak) (fun _=>rfl) m 0) rt rt rt ti)<|Mf a
theorem Vh{day:Int}{p:aI}{m:List (Int×PStart)}{ds:List PDeed}{d:PDeed}(h:wE day p m ds d=false):kP 49 [.ls ((ap (aC m d.act) d ds).map aJ),iV day] (.bool false)∨(dT d.it.for_ []=false∧dT d.it.for_ p=false):=by
  unfold wE W0 at h
  have hz:=sR (aC m d.act) d ds day
  cases q:gI (ap (aC m d.act) d ds) day with
  |false=>rw[q]at hz;exact .inl hz
  |true=>rw[q,Bool.and_true,BM]at h;exact .inr h
theorem PG{day:Int}{p:aI}{m:List (Int×PStart)}{ds:List PDeed}{d:PDeed}(h:wE day p m ds d=true):kP 49 [.ls ((ap (aC m d.act) d ds).map aJ),iV day] (.bool true)∧(dT d.it.for_ []=true∨(dT d.it.for_ []=false∧dT d.it.for_ p=true)):=by
  unfold wE W0 at h
  obtain⟨h1,h2⟩:=pg.1 h
  have hz:=sR (aC m d.act) d ds day
  rw[h2]at hz
  refine⟨hz,?_⟩
  cases q:dT d.it.for_ []with
  |true=>exact .inl rfl
  |false=>rw[q,Bool.false_or]at h1;exact .inr ⟨rfl,h1⟩
theorem YY(day:Int)(p:aI)(m:List (Int×PStart))(ds:List PDeed)(d:PDeed)(hb:wE day p m ds d=false):kD 48 [aY d,.ls ((ap (aC m d.act) d ds).map aJ),.ptr 1 0 0 0,.ptr 0 0 0 0,.ptr 2 0 0 0] (av [fG day,eQ p,qa,bm m,dc d]) (.tuple []) (av [fG day,eQ p,qa,bm m,dc d]):=by
  rcases Vh hb with h|⟨h1,h2⟩
  · exact ZD d _ day p m h
  · exact ZC d _ day p m h1 h2
theorem ZH(day:Int)(p:aI)(m:List (Int×PStart))(ds:List PDeed)(d:PDeed)(hb:By (wE day p m ds d) false):kD 48 [aY d,.ls ((ap (aC m d.act) d ds).map aJ),.ptr 1 0 0 0,.ptr 0 0 0 0,.ptr 2 0 0 0] (av [fG day,eQ p,qa,bm m,dc d]) (.tuple []) (av [fG day,eQ p,qa,bm m,dc d]):=YY day p m ds d hb
theorem ZG(day:Int)(p:aI)(m:List (Int×PStart))(ds:List PDeed)(d:PDeed)(hb:By (wE day p m ds d) true):kD 48 [aY d,.ls ((ap (aC m d.act) d ds).map aJ),.ptr 1 0 0 0,.ptr 0 0 0 0,.ptr 2 0 0 0] (av [fG day,eQ p,qa,bm m,dc d]) (.tuple []) (av [fG day,eQ p,pE 5 0 1,bm m,dc d,pB 0 [d]]):=by
  obtain⟨h,h1|⟨h1,h2⟩⟩:=PG hb
  · exact ZB d _ day p m h h1
  · exact ZA d _ day p m h h1 h2
theorem ZF(day:Int)(p:aI)(m:List (Int×PStart))(ds:List PDeed)(d:PDeed)(ep n:Nat)(out:List PDeed)(hb:By (wE day p m ds d) false):kD 48 [aY d,.ls ((ap (aC m d.act) d ds).map aJ),.ptr 1 0 0 0,.ptr 0 0 0 0,.ptr 2 0 0 0] (av [fG day,eQ p,pE 4 ep n,bm m,pB ep out,dc d]) (.tuple []) (av [fG day,eQ p,pE 4 ep n,bm m,pB ep out,dc d]):=by
  rcases Vh hb with h|⟨h1,h2⟩
  · exact Zu d _ day p m ep n out h
  · exact Zt d _ day p m ep n out h1 h2
theorem ZE(day:Int)(p:aI)(m:List (Int×PStart))(ds:List PDeed)(d:PDeed)(ep n:Nat)(out:List PDeed)(hb:By (wE day p m ds d) true)(hn:n=out.length)(hn2:n<2^20):kD 48 [aY d,.ls ((ap (aC m d.act) d ds).map aJ),.ptr 1 0 0 0,.ptr 0 0 0 0,.ptr 2 0 0 0] (av [fG day,eQ p,pE 4 ep n,bm m,pB ep out,dc d]) (.tuple []) (av [fG day,eQ p,pE 4 (ep+1) (n+1),bm m,pB (ep+1) (out++[d]),dc d]):=by
  obtain⟨h,h1|⟨h1,h2⟩⟩:=PG hb
  · exact Zs d _ day p m ep n out hn hn2 h h1
  · exact Zr d _ day p m ep n out hn hn2 h h1 h2
theorem F0{day:Int}{p:aI}{m:List (Int×PStart)}{ds r:List PDeed}{d:PDeed}(h:ch d.it.kind=false):qv day p m ds (d::r)=qv day p m ds r:=by simp only[qv,List.filter_cons,h,yd];rfl
theorem Cy{day:Int}{p:aI}{m:List (Int×PStart)}{ds r:List PDeed}{d:PDeed}(h:wE day p m ds d=false):qv day p m ds (d::r)=qv day p m ds r:=by simp only[qv,List.filter_cons,h,wj];rfl
theorem FT{day:Int}{p:aI}{m:List (Int×PStart)}{ds r:List PDeed}{d:PDeed}(h:ch d.it.kind=true)(h2:wE day p m ds d=true):qv day p m ds (d::r)=d::qv day p m ds r:=by simp only[qv,List.filter_cons,h,h2];rfl
structure OnA(day:Int)(p:aI)(m:List (Int×PStart))(ds r:List PDeed):Prop where
  f:qv day p m ds ds=qv day p m ds r
structure OnR(day:Int)(p:aI)(m:List (Int×PStart))(ds r:List PDeed)(ep n:Nat)(out:List PDeed):Prop where
  len:n=out.length
  ep:ep+1=out.length
  small:out.length+r.length≤ds.length
  f:qv day p m ds ds=out++qv day p m ds r
theorem OnA.no{day:Int}{p:aI}{m:List (Int×PStart)}{ds r:List PDeed}{d:PDeed}(h:OnA day p m ds (d::r))(ha:ch d.it.kind=false):OnA day p m ds r:=⟨by rw[h.f,F0 ha]⟩
theorem OnA.nil{day:Int}{p:aI}{m:List (Int×PStart)}{ds r:List PDeed}{d:PDeed}(h:OnA day p m ds (d::r))(hb:wE day p m ds d=false):OnA day p m ds r:=⟨by rw[h.f,Cy hb]⟩
theorem OnA.new{day:Int}{p:aI}{m:List (Int×PStart)}{ds r:List PDeed}{d:PDeed}{n:Nat}(h:OnA day p m ds (d::r))(hl:(d::r).length≤ds.length)(ha:ch d.it.kind=true)(hb:wE day p m ds d=true)(hn:n=1):OnR day p m ds r 0 n [d]:=⟨hn,rfl,by simp only[lC,lN]at *;omega,by rw[h.f,FT ha hb];rfl⟩
theorem OnR.no{day:Int}{p:aI}{m:List (Int×PStart)}{ds r:List PDeed}{d:PDeed}{ep n:Nat}{out:List PDeed}(h:OnR day p m ds (d::r) ep n out)(ha:ch d.it.kind=false):OnR day p m ds r ep n out:=⟨h.len,h.ep,by have:=h.small;simp only[lC]at this;omega,by rw[h.f,F0 ha]⟩
theorem OnR.nil{day:Int}{p:aI}{m:List (Int×PStart)}{ds r:List PDeed}{d:PDeed}{ep n:Nat}{out:List PDeed}(h:OnR day p m ds (d::r) ep n out)(hb:wE day p m ds d=false):OnR day p m ds r ep n out:=⟨h.len,h.ep,by have:=h.small;simp only[lC]at this;omega,by rw[h.f,Cy hb]⟩
theorem OnR.new{day:Int}{p:aI}{m:List (Int×PStart)}{ds r:List PDeed}{d:PDeed}{ep n k:Nat}{out:List PDeed}(h:OnR day p m ds (d::r) ep n out)(ha:ch d.it.kind=true)(hb:wE day p m ds d=true)(hk:k=n+1):OnR day p m ds r (ep+1) k (out++[d]):=by
  have:=h.len;have:=h.ep;have:=h.small
  refine⟨?_,?_,?_,by rw[h.f,FT ha hb,nR];rfl⟩<;>simp only[lA,lC,lN]at * <;>omega
theorem OnR.done{day:Int}{p:aI}{m:List (Int×PStart)}{ds:List PDeed}{ep n:Nat}{out:List PDeed}(h:OnR day p m ds [] ep n out):ep=(qv day p m ds ds).length -1∧n=(qv day p m ds ds).length∧out=qv day p m ds ds:=by
  have e:qv day p m ds ds=out:=by rw[h.f];exact ef _
  have:=h.len;have:=h.ep
  rw[e];exact⟨by omega,by omega,rfl⟩
theorem Im{α:Type}{l r:List α}{j:Nat}{a:α}(h:l.drop j=a::r):(a::r).length≤l.length:=by rw[←h,yc];omega
theorem Vi{day:Int}{p:aI}{m:List (Int×PStart)}{ds r:List PDeed}{d:PDeed}(h:qv day p m ds (d::r)=[])(ha:ch d.it.kind=true):wE day p m ds d=false:=by
  cases q:wE day p m ds d with
  |false=>rfl
  |true=>rw[FT ha q]at h;cases h
theorem Xa(gs:List PGaz)(L:List PAct)(ds:List PDeed)(day:Int)(p:aI)(hL:L.length<10000)(hd:ds.length<100000)(ha:kP 67 [.ls (gs.map af)] (.ls (L.map ay)))(hi:kP 68 [.ls (gs.map af)] (.ls (ds.map aY)))(hE:qv day p (kT L []) ds ds=[]):
    kD 47 [.ls (gs.map af),.func (.func 48) [] [.ptr 1 0 0 0,.ptr 0 0 0 0,.ptr 2 0 0 0]] (av [fG day,eQ p,qa]) (.tuple []) (av [fG day,eQ p,qa]):=by
  have hlk:=o6
  have hup:=rQ
  let q1:=[iV day];exact ej Tryz.func47 fun a=>Kp 2 ha<|Kl 0 13 (ln ay L)<|Mg 0<|JI ay L ([]:List (Int×PStart)) [0,1,4,12,13,14] (fun a _ b=>([aW<|gs.map af,bj (bx 48) [] [bU 1 0 0 0,bU 0 0 0 0,bU 2 0 0 0],AV.map 3,aW<|L.map ay,nV L.length,nV a],[aZ 1 false 0 [iV day],aZ 1 false 0 [ax p],aZ 1 false 0 [ah],AObj.map (aT ak b 0) b.length])) (fun a b=>kT L []=kT a b) (by rfl) (fun _ _ b _ _ _ c d=>Kh 0 c<|Kp 0 hi<|Kl 2 27 (ln aY ds)<|Mg 0<|Vk (0:Nat) ds () [1,4,7,26,27,28] (fun a _ _=>([bj (bx 48) [] [bU 1 0 0 0,bU 0 0 0 0,bU 2 0 0 0],AV.map 3,aW<|ds.map aY,aW<|ds.map aY,nV ds.length,nV a],[aZ 1 false 0 [iV day],aZ 1 false 0 [ax p],aZ 1 false 0 [ah],AObj.map (aT ak b 0) b.length])) (fun a c _=>(ds).drop a=c∧qv day p b ds c=[]) (fun _ a _=>a.length) (et rfl<|by(rw[←show kT L []=b from d];exact hE)) fun c d e f g=>Mc d (fun c=>have d:=eP f.1 c;have:=gv (J:=fun a _=>qv day p b ds a=[]) (a:=e) c f.2;Kh 0 d<|M1 (.frz 3 []) (jJ rt rt rt ti)<|Mf a) fun a d h=>let i:=[ab [iV a.act,iV a.item,iV a.day,iV a.it.kind,aW<|a.it.at_.map az,aW<|a.it.to.map az,iV a.it.where_,iV a.it.nth_,iV a.it.unit.act,iV a.it.unit.item,iV a.it.unit.n,iV a.it.unit.kind,ax a.it.unit.label,aW<|a.it.unit.head.map aQ,aW<|a.it.unit.words.map aQ,aW<|a.it.unit.kids.map aK,aW<|a.it.old.map m0,aW<|a.it.new.map m0,ax a.it.label,ax a.it.for_,iV a.it.start.kind,iV a.it.start.day,ax a.it.start.event,iV a.it.act,iV a.it.item,iV a.it.day,ax a.it.event,aW<|a.it.by_.map NT]];have j:=fY f.1 h;have:=am j;have k:=eO (enc:=aY) f.1 h;have e:=cw (J:=fun a _=>qv day p b ds a=[]) (a:=e) h f.2;Kt 0 j<|Mx k<|Kp 5 (jd a.it.kind)<|Mb (ch a.it.kind) (fun _=>K1 4 (.look<|ab [iV (aC b a.act).kind,iV (aC b a.act).day,ax (aC b a.act).event]) (hlk b a.act)<|Kp 1 (gJ (aC b a.act) a ds<|by(omega))<|M3 (.efx true (bO [])<|av [aZ 1 false 0 q1,aZ 1 false 0 [ax p],aZ 1 false 0 [ah],AObj.map (aT ak b 0) b.length,aZ 28 false 0 i]) (vP rt (tM b.length 5<|aa (f:=ak) (fun _=>rfl) b 0) rt rt rt ti) (vP (aU<|some<|aZ 28 false 0 i) (aU<|some<|AObj.map (aT ak b 0) b.length) (aU<|some<|aZ 1 false 0 [ah]) (aU<|some<|aZ 1 false 0 [ax p]) (aU<|some<|aZ 1 false 0 q1) ti) (YY day p b ds a<|by exact Vi e (by assumption))<|Kl 0 46 (dK c)<|K1 0 (.frz 4 [1,4,7,26,27,28]) (xV (tM b.length 4<|aa (f:=ak) (fun _=>rfl) b 0) rt rt rt ti)<|Mf<|g (c+1) d () (et (bV f.1 h)<|by(have z:=e;rw[Cy (Vi z (by assumption))]at z;exact z))<|dn h) fun _=>Kl 0 46 (dK c)<|K1 0 (.frz 4 [1,4,7,26,27,28]) (xV (tM b.length 4<|aa (f:=ak) (fun _=>rfl) b 0) rt rt rt ti)<|Mf<|g (c+1) d () (et (bV f.1 h)<|by(have z:=e;rw[F0 (by assumption)]at z;exact z))<|dn h) fun a _ b _ _ c d e _ f _ g h=>Kt 0 f<|Mx g<|K1 7 (.upd (aT ak (di c.number c.start b) 0) (di c.number c.start b).length) (hup b c)<|Kl 0 23 (dK a)<|K1 0 (.frz 4 [0,1,4,12,13,14]) (xV (tM (di c.number c.start b).length 4<|aa (f:=ak) (fun _=>rfl) (di c.number c.start b) 0) rt rt rt ti)<|Mf<|e (di c.number c.start b)<|by exact h
def Hu(gs:List PGaz)(L:List PAct)(day:Int)(p:aI)(x0:Nat×List PAct×List (Int×PStart)):Prop:=(L).drop x0.1=x0.2.1∧kT L []=kT x0.2.1 x0.2.2
noncomputable def xb(gs:List PGaz)(L:List PAct)(day:Int)(p:aI)(x0:Nat×List PAct×List (Int×PStart)):List AV×List AObj:=([AV.ls (gs.map af),AV.func (Fn.func 48) [] [AV.ptr 1 0 0 0,AV.ptr 0 0 0 0,AV.ptr 2 0 0 0],AV.map 3,AV.ls (L.map ay),nV L.length,nV x0.1],[AObj.row 1 false 0 [iV day],AObj.row 1 false 0 [AV.str p],AObj.row 1 false 0 [AV.nils],AObj.map (aT ak x0.2.2 0) x0.2.2.length])
def Ht(ds:List PDeed)(day:Int)(p:aI)(x0:Nat×List PAct×List (Int×PStart))(x1:Nat×List PDeed×Unit):Prop:=(ds).drop x1.1=x1.2.1∧OnA day p x0.2.2 ds x1.2.1
noncomputable def xa(ds:List PDeed)(day:Int)(p:aI)(x0:Nat×List PAct×List (Int×PStart))(x1:Nat×List PDeed×Unit):List AV×List AObj:=([AV.func (Fn.func 48) [] [AV.ptr 1 0 0 0,AV.ptr 0 0 0 0,AV.ptr 2 0 0 0],AV.map 3,AV.ls (ds.map aY),AV.ls (ds.map aY),nV ds.length,nV x1.1],[AObj.row 1 false 0 [iV day],AObj.row 1 false 0 [AV.str p],AObj.row 1 false 0 [AV.nils],AObj.map (aT ak x0.2.2 0) x0.2.2.length])
def Hs(ds:List PDeed)(day:Int)(p:aI)(x0:Nat×List PAct×List (Int×PStart))(x1:Nat×List PDeed×Nat×Nat×List PDeed):Prop:=(ds).drop x1.1=x1.2.1∧OnR day p x0.2.2 ds x1.2.1 x1.2.2.1 x1.2.2.2.1 x1.2.2.2.2
noncomputable def Hr(ds:List PDeed)(day:Int)(p:aI)(x0:Nat×List PAct×List (Int×PStart))(x1:Nat×List PDeed×Nat×Nat×List PDeed):List AV×List AObj:=([AV.func (Fn.func 48) [] [AV.ptr 1 0 0 0,AV.ptr 0 0 0 0,AV.ptr 2 0 0 0],AV.map 3,AV.ls (ds.map aY),AV.ls (ds.map aY),nV ds.length,nV x1.1],[AObj.row 1 false 0 [iV day],AObj.row 1 false 0 [AV.str p],AObj.row 1 false 0 [AV.slice 4 x1.2.2.1 0 x1.2.2.2.1 none],AObj.map (aT ak x0.2.2 0) x0.2.2.length,AObj.row 28 true x1.2.2.1 (x1.2.2.2.2.map aY)])
theorem Xy(gs:List PGaz)(L:List PAct)(ds:List PDeed)(day:Int)(p:aI)(hL:L.length<10000)(hd:ds.length<100000)(ha:kP 67 [.ls (gs.map af)] (.ls (L.map ay)))(hi:kP 68 [.ls (gs.map af)] (.ls (ds.map aY)))(hE:qv day p (kT L []) ds ds≠[]):
    kD 47 [.ls (gs.map af),.func (.func 48) [] [.ptr 1 0 0 0,.ptr 0 0 0 0,.ptr 2 0 0 0]] (av [fG day,eQ p,qa]) (.tuple []) (av [fG day,eQ p,pE 3 ((qv day p (kT L []) ds ds).length -1) (qv day p (kT L []) ds ds).length,pB ((qv day p (kT L []) ds ds).length -1) (qv day p (kT L []) ds ds)]):=by
  have hlk:=o6
  have hup:=rQ
  let q5:=[iV day];let q8:=bO [];let q10:=some (aZ 1 false 0 [ax p]);let q11:=some (aZ 1 false 0 q5);exact Oi Tryz.func47<|Kp 2 ha<|Kl 0 13 (ln ay L)<|Mg 0<|ML (Nat×List PAct×List (Int×PStart)) [0,1,4,12,13,14] (xb gs L day p) (Hu gs L day p) (fun a=>a.2.1.length) (0,L,[]) (aU<|xb gs L day p (0,L,[])) (et (rfl:List.drop 0 (L)=L) (by rfl:(kT L []=kT L []))) fun a b c=>let d:=some<|AObj.map (aT ak a.2.2 0) a.2.2.length;Mi (fun a b=>kT L []=kT a b) ay b (fun _ b c=>Kh 0 b<|Kp 0 hi<|Kl 2 27 (ln aY ds)<|Mg 0<|MM (Nat×List PDeed×Unit) (Nat×List PDeed×Nat×Nat×List PDeed) [1,4,7,26,27,28] (xa ds day p a) (Hr ds day p a) (Ht ds day p a) (Hs ds day p a) (fun a=>a.2.1.length) (fun a=>a.2.1.length) (.inl (0,ds,())) (aU<|xa ds day p a (0,ds,())) (et (rfl:List.drop 0 (ds)=ds) (by(exact⟨rfl⟩):(OnA day p a.2.2 ds ds))) (fun b e f=>Mc b.2.1 (fun d=>have f:=eP e.1 d;have b:=gv (J:=fun b _=>OnA day p a.2.2 ds b) (a:=b.2.2) d e.2;Kh 0 f<|Mw .abs (by exact hE (by rw[show kT L []=a.2.2 from c];exact b.f):False)) fun c g h=>let i:=[ab [iV c.act,iV c.item,iV c.day,iV c.it.kind,aW<|c.it.at_.map az,aW<|c.it.to.map az,iV c.it.where_,iV c.it.nth_,iV c.it.unit.act,iV c.it.unit.item,iV c.it.unit.n,iV c.it.unit.kind,ax c.it.unit.label,aW<|c.it.unit.head.map aQ,aW<|c.it.unit.words.map aQ,aW<|c.it.unit.kids.map aK,aW<|c.it.old.map m0,aW<|c.it.new.map m0,ax c.it.label,ax c.it.for_,iV c.it.start.kind,iV c.it.start.day,ax c.it.start.event,iV c.it.act,iV c.it.item,iV c.it.day,ax c.it.event,aW<|c.it.by_.map NT]];let j:=ab [iV (aC a.2.2 c.act).kind,iV (aC a.2.2 c.act).day,ax (aC a.2.2 c.act).event];have k:=fY e.1 h;have:=am k;have l:=eO (enc:=aY) e.1 h;have m:=cw (J:=fun b _=>OnA day p a.2.2 ds b) (a:=b.2.2) h e.2;Kt 0 k<|Mx l<|Kp 5 (jd c.it.kind)<|Mb (ch c.it.kind) (fun _=>Ms (wE day p a.2.2 ds c) (fun d=>K1 4 (.look j) (hlk a.2.2 c.act)<|Kp 1 (gJ (aC a.2.2 c.act) c ds<|by(omega))<|M3 (.efx false q8<|av [aZ 1 false 0 q5,aZ 1 false 0 [ax p],aZ 1 false 0 [aN 5 0 0 1 none],AObj.map (aT ak a.2.2 0) a.2.2.length,aZ 28 false 0 i,aZ 28 true 0 i]) (vP rt (tM a.2.2.length 5<|aa (f:=ak) (fun _=>rfl) a.2.2 0) rt rt rt ti) ti (ZG day p a.2.2 ds c d)<|Kl 0 46 (dK b.1)<|K1 0 (.ren [0,1,2,3,5,4] [3] [1,4,7,26,27,28]) (tN a.2.2.length<|aa (f:=ak) (fun _=>rfl) a.2.2 0)<|M1 (.frz 5 [1,4,7,26,27,28]) (vP rt (tM a.2.2.length 5<|aa (f:=ak) (fun _=>rfl) a.2.2 0) rt rt rt ti)<|Mf<|f (.inr (b.1+1,g,(0,1,[c]))) (et (bV e.1 h) (by exact m.new (Im (e.1.trans h)) (by assumption) (by assumption) rfl:(OnR day p a.2.2 ds g (0:Nat) (1:Nat) [c])))<|dn h) fun k=>K1 4 (.look j) (hlk a.2.2 c.act)<|Kp 1 (gJ (aC a.2.2 c.act) c ds<|by(omega))<|M3 (.efx true q8<|av [aZ 1 false 0 q5,aZ 1 false 0 [ax p],aZ 1 false 0 [ah],AObj.map (aT ak a.2.2 0) a.2.2.length,aZ 28 false 0 i]) (vP rt (tM a.2.2.length 5<|aa (f:=ak) (fun _=>rfl) a.2.2 0) rt rt rt ti) (vP (aU<|some<|aZ 28 false 0 i) (aU d) (aU<|some<|aZ 1 false 0 [ah]) (aU q10) (aU q11) ti) (ZH day p a.2.2 ds c k)<|Kl 0 46 (dK b.1)<|K1 0 (.frz 4 [1,4,7,26,27,28]) (xV (tM a.2.2.length 4<|aa (f:=ak) (fun _=>rfl) a.2.2 0) rt rt rt ti)<|Mf<|f (.inl (b.1+1,g,())) (et (bV e.1 h) (by exact m.nil (by assumption):(OnA day p a.2.2 ds g)))<|dn h) fun _=>Kl 0 46 (dK b.1)<|K1 0 (.frz 4 [1,4,7,26,27,28]) (xV (tM a.2.2.length 4<|aa (f:=ak) (fun _=>rfl) a.2.2 0) rt rt rt ti)<|Mf<|f (.inl (b.1+1,g,())) (et (bV e.1 h) (by exact m.no (by assumption):(OnA day p a.2.2 ds g)))<|dn h) fun b e f=>let g:=[aN 4 b.2.2.1 0 b.2.2.2.1 none];let h:=List.map aY b.2.2.2.2;Mc b.2.1 (fun d=>have f:=eP e.1 d;have d:=gv (J:=fun b c=>OnR day p a.2.2 ds b c.1 c.2.1 c.2.2) (a:=b.2.2) d e.2;Kh 0 f<|M2 (.ren [0,1,2,4,3] [4,3] []) (tS 28 true b.2.2.1<|aX xj b.2.2.2.2) (tN a.2.2.length<|aa (f:=ak) (fun _=>rfl) a.2.2 0)<|M1 (.frz 4 []) (xV (tR 28 true b.2.2.1 4<|aX xj b.2.2.2.2) rt rt rt ti)<|Mf<|et (aU q8) (by(have q:=d.done;rw[show kT L []=a.2.2 from c,q.1,q.2.1,q.2.2]):(av [AObj.row 1 false 0 [iV day],AObj.row 1 false 0 [AV.str p],AObj.row 1 false 0 [AV.slice 3 b.2.2.1 0 b.2.2.2.1 none],AObj.row 28 true b.2.2.1 (b.2.2.2.2.map aY)])=(av [fG day,eQ p,pE 3 ((qv day p (kT L []) ds ds).length -1) (qv day p (kT L []) ds ds).length,pB ((qv day p (kT L []) ds ds).length -1) (qv day p (kT L []) ds ds)]))) fun c i j=>let k:=[ab [iV c.act,iV c.item,iV c.day,iV c.it.kind,aW<|c.it.at_.map az,aW<|c.it.to.map az,iV c.it.where_,iV c.it.nth_,iV c.it.unit.act,iV c.it.unit.item,iV c.it.unit.n,iV c.it.unit.kind,ax c.it.unit.label,aW<|c.it.unit.head.map aQ,aW<|c.it.unit.words.map aQ,aW<|c.it.unit.kids.map aK,aW<|c.it.old.map m0,aW<|c.it.new.map m0,ax c.it.label,ax c.it.for_,iV c.it.start.kind,iV c.it.start.day,ax c.it.start.event,iV c.it.act,iV c.it.item,iV c.it.day,ax c.it.event,aW<|c.it.by_.map NT]];let l:=ab [iV (aC a.2.2 c.act).kind,iV (aC a.2.2 c.act).day,ax (aC a.2.2 c.act).event];have m:=fY e.1 j;have:=am m;have n:=eO (enc:=aY) e.1 j;have o:=cw (J:=fun b c=>OnR day p a.2.2 ds b c.1 c.2.1 c.2.2) (a:=b.2.2) j e.2;Kt 0 m<|Mx n<|Kp 5 (jd c.it.kind)<|Mb (ch c.it.kind) (fun _=>Ms (wE day p a.2.2 ds c) (fun d=>K1 4 (.look l) (hlk a.2.2 c.act)<|Kp 1 (gJ (aC a.2.2 c.act) c ds<|by(omega))<|M3 (.efx false q8<|av [aZ 1 false 0 q5,aZ 1 false 0 [ax p],aZ 1 false 0 [aN 4 (b.2.2.1+1) 0 (b.2.2.2.1+1) none],AObj.map (aT ak a.2.2 0) a.2.2.length,aZ 28 true (b.2.2.1+1)<|(b.2.2.2.2++[c]).map aY,aZ 28 false 0 k]) (E1 rt (tR 28 true b.2.2.1 6<|aX xj b.2.2.2.2) (tM a.2.2.length 6<|aa (f:=ak) (fun _=>rfl) a.2.2 0) rt rt rt ti) ti (ZE day p a.2.2 ds c b.2.2.1 b.2.2.2.1 b.2.2.2.2 d (by exact o.len)<|by(have z:=o.small;have z2:=o.len;simp only[lC]at z;omega))<|Kl 0 46 (dK b.1)<|K1 0 (.frz 5 [1,4,7,26,27,28]) (vP (tR 28 true (b.2.2.1+1) 5<|aX xj<|b.2.2.2.2++[c]) (tM a.2.2.length 5<|aa (f:=ak) (fun _=>rfl) a.2.2 0) rt rt rt ti)<|Mf<|f (.inr (b.1+1,i,(b.2.2.1+1,b.2.2.2.1+1,b.2.2.2.2++[c]))) (et (bV e.1 j) (by exact o.new (by assumption) (by assumption) rfl:(OnR day p a.2.2 ds i (b.2.2.1+1) (b.2.2.2.1+1) (b.2.2.2.2++[c]))))<|dn j) fun m=>K1 4 (.look l) (hlk a.2.2 c.act)<|Kp 1 (gJ (aC a.2.2 c.act) c ds<|by(omega))<|M3 (.efx true q8<|av [aZ 1 false 0 q5,aZ 1 false 0 [ax p],aZ 1 false 0 g,AObj.map (aT ak a.2.2 0) a.2.2.length,aZ 28 true b.2.2.1 h,aZ 28 false 0 k]) (E1 rt (tR 28 true b.2.2.1 6<|aX xj b.2.2.2.2) (tM a.2.2.length 6<|aa (f:=ak) (fun _=>rfl) a.2.2 0) rt rt rt ti) (E1 (aU<|some<|aZ 28 false 0 k) (aU<|some<|aZ 28 true b.2.2.1 h) (aU d) (aU<|some<|aZ 1 false 0 g) (aU q10) (aU q11) ti) (ZF day p a.2.2 ds c b.2.2.1 b.2.2.2.1 b.2.2.2.2 m)<|Kl 0 46 (dK b.1)<|K1 0 (.frz 5 [1,4,7,26,27,28]) (vP (tR 28 true b.2.2.1 5<|aX xj b.2.2.2.2) (tM a.2.2.length 5<|aa (f:=ak) (fun _=>rfl) a.2.2 0) rt rt rt ti)<|Mf<|f (.inr (b.1+1,i,(b.2.2.1,b.2.2.2.1,b.2.2.2.2))) (et (bV e.1 j) (by exact o.nil (by assumption):(OnR day p a.2.2 ds i b.2.2.1 b.2.2.2.1 b.2.2.2.2)))<|dn j) fun _=>Kl 0 46 (dK b.1)<|K1 0 (.frz 5 [1,4,7,26,27,28]) (vP (tR 28 true b.2.2.1 5<|aX xj b.2.2.2.2) (tM a.2.2.length 5<|aa (f:=ak) (fun _=>rfl) a.2.2 0) rt rt rt ti)<|Mf<|f (.inr (b.1+1,i,(b.2.2.1,b.2.2.2.1,b.2.2.2.2))) (et (bV e.1 j) (by exact o.no (by assumption):(OnR day p a.2.2 ds i b.2.2.1 b.2.2.2.1 b.2.2.2.2)))<|dn j) fun d e f g _ h i=>Kt 0 g<|Mx h<|K1 7 (.upd (aT ak (di d.number d.start a.2.2) 0) (di d.number d.start a.2.2).length) (hup a.2.2 d)<|Kl 0 23 (dK a.1)<|K1 0 (.frz 4 [0,1,4,12,13,14]) (xV (tM (di d.number d.start a.2.2).length 4<|aa (f:=ak) (fun _=>rfl) (di d.number d.start a.2.2) 0) rt rt rt ti)<|Mf<|c (a.1+1,e,di d.number d.start a.2.2) (et (bV b.1 f) (by exact i:(kT L []=kT e (di d.number d.start a.2.2))))<|dn f
/-- What is in force on a day for a purpose. -/
noncomputable def Zc(day:Int)(p:aI)(L:List PAct)(ds:List PDeed):List PDeed:=qv day p (kT L []) ds ds
theorem YK(gs:List PGaz)(day:Int)(p:aI)(hc:kD 47 [.ls (gs.map af),.func (.func 48) [] [.ptr 1 0 0 0,.ptr 0 0 0 0,.ptr 2 0 0 0]] (av [fG day,eQ p,qa]) (.tuple []) (av [fG day,eQ p,qa])):kP 26 [iV day,.str p,.ls (gs.map af)] (.ls (([]:List PDeed).map aY)):=by
  exact bD Tryz.func26<|Ke 5 hc<|Kf 1 bI
theorem YJ(gs:List PGaz)(day:Int)(p:aI)(X:List PDeed)(k:Nat)(hz:0<X.length)(hb:X.length<2^40)(hc:kD 47 [.ls (gs.map af),.func (.func 48) [] [.ptr 1 0 0 0,.ptr 0 0 0 0,.ptr 2 0 0 0]] (av [fG day,eQ p,qa]) (.tuple []) (av [fG day,eQ p,pE 3 k X.length,pB k X])):kP 26 [iV day,.str p,.ls (gs.map af)] (.ls (X.map aY)):=by
  let q:=List.map aY X;exact bD Tryz.func26<|Ke 5 hc<|Mg 1<|M2 (.fsl 0 [] 6 q) ti (cn (aU k) (tA aY X X.length rfl)<|aX xj X)<|Ml 6 (fg q false<|aX xj X)<|Mf<|bc<|aW q
theorem YV(gs:List PGaz)(L:List PAct)(ds:List PDeed)(day:Int)(p:aI)(hL:L.length<10000)(hd:ds.length<100000)(ha:kP 67 [.ls (gs.map af)] (.ls (L.map ay)))(hi:kP 68 [.ls (gs.map af)] (.ls (ds.map aY))):kP 26 [iV day,.str p,.ls (gs.map af)] (.ls ((Zc day p L ds).map aY)):=by
  by_cases hE:Zc day p L ds=[]
  · rw[hE];exact YK gs day p (Xa gs L ds day p hL hd ha hi hE)
  · have hl:(Zc day p L ds).length≤ds.length:=List.length_filter_le ..
    exact YJ gs day p _ _ (pP.2 hE) (by omega) (Xy gs L ds day p hL hd ha hi hE)
/-- The book with nothing in it. -/
def vW:TUnit:=⟨0,0,0,0,[],[],[],[]⟩
theorem Ra:OkB vW:=⟨by decide,by decide,fun x hx=>by
  have e:x=vW:=by simpa[vW,bp,dr]using hx
  subst e;exact⟨bH _,bH _⟩⟩
theorem XC(X:List PDeed)(hl:X.length<2^30)(ho:∀d,d∈X→xT d.it):kP 59 [zU,.ls (X.map aY)] (.tuple [eU (de vW X),.ls ((fy vW X).map ii)]):=
  (Sj vW X Ra hl ho).args (.cons (wJ _ _ (by kernel_rfl)).1 (.cons (Le.refl _) .nil))
theorem Rp(X:List PDeed)(hl:X.length<2^30)(ho:∀d,d∈X→xT d.it):kP 37 [.ls (X.map aY)] (.tuple [eU (de vW X),.ls ((fy vW X).map ii)]):=by
  have h:=XC X hl ho
  exact bD Tryz.func37<|Kp 3 h<|Kf 3<|bc<|bO [ab [iV (de vW X).act,iV (de vW X).item,iV (de vW X).n,iV (de vW X).kind,ax (de vW X).label,aW<|List.map aQ (de vW X).head,aW<|List.map aQ (de vW X).words,aW<|List.map aK (de vW X).kids],aW<|(fy vW X).map ii]
theorem UR(gs:List PGaz)(day:Int)(p:aI)(X:List PDeed)(hon:kP 26 [iV day,.str p,.ls (gs.map af)] (.ls (X.map aY))):kP 36 [iV day,.str p,.ls (gs.map af)] (.ls (X.map aY)):=by
  exact bD Tryz.func36<|Kp 3 hon<|Kf 0<|bc<|aW<|X.map aY
theorem RS(gs:List PGaz)(day:Int)(p:aI)(X:List PDeed)(hl:X.length<2^30)(ho:∀d,d∈X→xT d.it)(hon:kP 26 [iV day,.str p,.ls (gs.map af)] (.ls (X.map aY))):kP 14 [iV day,.str p,.ls (gs.map af)] (eU (de vW X)):=by
  have h1:=UR gs day p X hon
  have h2:=Rp X hl ho
  exact bD Tryz.func14<|Kp 3 h1<|Mp h2<|Kf 7<|bc<|ab [iV (de vW X).act,iV (de vW X).item,iV (de vW X).n,iV (de vW X).kind,ax (de vW X).label,aW<|List.map aQ (de vW X).head,aW<|List.map aQ (de vW X).words,aW<|List.map aK (de vW X).kids]
/-- What the bound on gazettes tells. -/
structure OkG(gs:List PGaz):Prop where
  fit:po gs
  len:gs.length≤9
  acts:∀g,g∈gs→g.acts.length≤20
  items:∀g,g∈gs→∀a,a∈g.acts→a.items.length≤40∧∀x,x∈a.items→mO x=true
theorem CQ:∀(ys out:List PAct),(ys.foldl j6 out).length≤out.length+ys.length
  |[],out=>au _
  | a::r,out=>by
    have:=CQ r (j6 out a);have:=(O8 out a).2
    simp only[mf,lC];omega
theorem Aj:∀(gs:List PGaz),(∀g,g∈gs→g.acts.length≤20)→∀out,(bw gs out).length≤out.length+20*gs.length
  |[],_,out=>au _
  | g::r,hb,out=>by
    have:=Aj r (fun x hx=>hb x (eJ _ hx)) (g.acts.foldl j6 out)
    have:=CQ g.acts out
    have:=hb g (eW ..)
    simp only[bw,mf,lC]at *
    omega
theorem O7{out:List PAct}{a b:PAct}(h:b∈j6 out a):b∈out∨b=a:=by
  unfold j6 at h
  split at h
  · exact .inl h
  · rcases jA.1 h with h|h
    · exact .inl h
    · exact .inr (ph.1 h)
theorem B9:∀(ys out:List PAct)(b:PAct),b∈ys.foldl j6 out→b∈out∨b∈ys
  |[],out,b,h=>.inl h
  | a::r,out,b,h=>by
    rcases B9 r (j6 out a) b h with h|h
    · rcases O7 h with h|rfl
      · exact .inl h
      · exact .inr (eW ..)
    · exact .inr (eJ _ h)
theorem Ax:∀(gs:List PGaz)(out:List PAct)(b:PAct),b∈bw gs out→b∈out∨∃g,g∈gs∧b∈g.acts
  |[],out,b,h=>.inl h
  | g::r,out,b,h=>by
    rcases Ax r (g.acts.foldl j6 out) b h with h|⟨g2,q1,q2⟩
    · rcases B9 g.acts out b h with h|h
      · exact .inl h
      · exact .inr ⟨g,eW ..,h⟩
    · exact .inr ⟨g2,eJ _ q1,q2⟩
theorem u0:∀(l:List PAct),(∀a,a∈l→a.items.length≤40)→(m9 l).length≤40*l.length
  |[],_=>au _
  | a::r,h=>by
    have:=u0 r fun b hb=>h b (eJ _ hb)
    have:=h a (eW ..)
    simp only[m9,List.flatMap_cons,lA,ld,lC]at *
    omega
theorem OkG.act{gs:List PGaz}(h:OkG gs){a:PAct}(ha:a∈gu gs):a.items.length≤40∧(∀x,x∈a.items→mO x=true)∧NE a:=by
  have ha:=(pb gs).mem_iff.1 ha
  rcases Ax gs [] a ha with q|⟨g,h1,h2⟩
  · cases q
  · exact⟨(h.items g h1 a h2).1,(h.items g h1 a h2).2,(h.fit.2 g h1).2 a h2⟩
/-- The items as they stand. -/
noncomputable def px(gs:List PGaz):List PDeed:=bP (aE (gu gs) []) (gu gs)
theorem OkG.lens{gs:List PGaz}(h:OkG gs):(gu gs).length≤180∧(px gs).length≤7200:=by
  have h1:=Aj gs h.acts []
  have h2:=(pb gs).length_eq
  have h3:=u0 (gu gs) fun a ha=>(h.act ha).1
  have h4:=h.len
  have h5:(px gs).length=(m9 (gu gs)).length:=cJ ..
  simp only[lN]at h1
  omega
theorem OkG.all{gs:List PGaz}(h:OkG gs):kP 67 [.ls (gs.map af)] (.ls ((gu gs).map ay))∧kP 68 [.ls (gs.map af)] (.ls ((px gs).map aY)):=by
  have h1:=h.lens
  have h2:=(pb gs).length_eq
  have h3:(px gs).length=(m9 (gu gs)).length:=cJ ..
  have h4:=h.len
  exact⟨L6 gs h.fit (fun g hg=>nK (h.acts g hg) (by decide)) (by omega) (by omega),Qf gs h.fit (fun g hg=>nK (h.acts g hg) (by decide)) (by omega) (by omega) (fun a ha=>nK (h.act ha).1 (by decide)) (by omega)⟩
theorem Xl{x y:PItem}(h:mO x=true)(hy:y∈x.by_):mO y=true:=by
  rw[EV]at h
  simp only[bq]at h
  have:=l9.1 h.2.2.2.2.2 y hy
  unfold HD at this
  exact(pg.1 this).2
theorem Xi{x y:PItem}(h:nX x)(hy:y∈x.by_):nX y:=(qr.1 h).2.2.2.2.2.2 y hy
theorem Fm{K V:Type}{keq:K→K→Bool}{k:K}{v:V}:∀{l:List (K×V)}{e:K×V},e∈ft keq k v l→e∈l∨e.2=v
  | [],e,h=>by
    rw[ft,ph]at h;exact .inr (by rw[h])
  | (j,u)::r,e,h=>by
    rw[ft]at h
    cases q:keq k j with
    | true=>
      rw[q]at h
      rcases ez.1 h with h|h
      · exact .inr (by rw[h])
      · exact .inl (eJ _ h)
    | false=>
      rw[q]at h
      rcases ez.1 h with h|h
      · exact .inl (by rw[h];exact eW ..)
      · rcases Fm (l:=r) h with h|h
        · exact .inl (eJ _ h)
        · exact .inr h
theorem GH{K V:Type}{keq:K→K→Bool}{k:K}{v:V}:∀{l:List (K×V)},nL keq k l=some v→∃e,e∈l∧e.2=v
  |[],h=>by cases h
  | (j,u)::r,h=>by
    rw[nL]at h
    cases q:keq k j with
    |true=>rw[q]at h;exact⟨(j,u),eW ..,E7 h⟩
    | false=>
      rw[q]at h
      obtain⟨e,h1,h2⟩:=GH (l:=r) h
      exact⟨e,eJ _ h1,h2⟩
theorem N5{m:List ((Int×Int)×PItem)}{x:PItem}(hm:∀e,e∈m→xT e.2)(h1:mO x=true)(h2:nX x):∀e,e∈jt m x→xT e.2:=by
  unfold jt
  split
  · rename_i h
    simp only[bq]at h
    have hl:=am h.1.2
    have hy:gD x.by_ 0∈x.by_:=gV (by simp only[oN]at hl;omega)
    intro e he
    rcases Fm he with q|q
    · exact hm e q
    · rw[q];exact PT (Xi h2 hy) (Xl h1 hy)
  · exact hm
theorem C5:∀(xs:List PItem)(m:List ((Int×Int)×PItem)),(∀e,e∈m→xT e.2)→(∀x,x∈xs→mO x=true∧nX x)→∀e,e∈xs.foldl jt m→xT e.2
  |[],_,hm,_=>hm
  |x::r,m,hm,h=>C5 r (jt m x) (N5 hm (h x (eW ..)).1 (h x (eW ..)).2) fun y hy=>h y (eJ _ hy)
theorem C4:∀(l:List PAct)(m:List ((Int×Int)×PItem)),(∀e,e∈m→xT e.2)→(∀a,a∈l→∀x,x∈a.items→mO x=true∧nX x)→∀e,e∈aE l m→xT e.2
  |[],_,hm,_=>hm
  |a::r,m,hm,h=>C4 r (a.items.foldl jt m) (C5 a.items m hm (h a (eW ..))) fun b hb=>h b (eJ _ hb)
theorem An(a:PAct):∀(l:List PItem)(i:Nat)(d:PDeed),d∈cY a l i→d.it∈l
  |[],_,d,h=>by cases h
  | x::r,i,d,h=>by
    rcases ez.1 h with rfl|h
    · exact eW ..
    · exact eJ _ (An a r _ d h)
theorem OkG.deed{gs:List PGaz}(h:OkG gs){d:PDeed}(hd:d∈px gs):xT d.it:=by
  have hi:∀a,a∈gu gs→∀x,x∈a.items→mO x=true∧nX x:=fun a ha x hx=>⟨(h.act ha).2.1 x hx,(h.act ha).2.2.2 x hx⟩
  obtain⟨o,ho,rfl⟩:=ke.1 hd
  obtain⟨a,ha,hoa⟩:=List.mem_flatMap.1 ho
  have h1:=hi a ha _ (An a _ _ _ hoa)
  have h2:xT o.it:=PT h1.2 h1.1
  unfold nZ
  split
  · rename_i hc
    have hc:=(pg.1 hc).1
    unfold qm at hc
    show xT (IU (aE (gu gs) []) o)
    unfold IU
    cases q:nL pY (o.act,o.item) (aE (gu gs) [])with
    |none=>rw[q]at hc;cases hc
    | some v=>
      obtain⟨e,e1,e2⟩:=GH q
      have:=C4 (gu gs) [] (fun e he=>by cases he) hi e e1
      rw[e2]at this
      exact this
  · exact h2
/-- What is in force. -/
noncomputable def qp(day:Int)(p:aI)(gs:List PGaz):List PDeed:=Zc day p (gu gs) (px gs)
noncomputable def aH(day:Int)(p:aI)(gs:List PGaz):TUnit:=de vW (qp day p gs)
theorem OkG.force{gs:List PGaz}(h:OkG gs)(day:Int)(p:aI):(qp day p gs).length<2^30∧(∀d,d∈qp day p gs→xT d.it)∧kP 26 [iV day,.str p,.ls (gs.map af)] (.ls ((qp day p gs).map aY)):=by
  have hl:=h.lens
  have h1:(qp day p gs).length≤(px gs).length:=List.length_filter_le ..
  exact⟨by omega,fun d hd=>h.deed (List.mem_filter.1 hd).1,YV gs _ _ day p (by omega) (by omega) h.all.1 h.all.2⟩
theorem OkG.book{gs:List PGaz}(h:OkG gs)(day:Int)(p:aI):kP 14 [iV day,.str p,.ls (gs.map af)] (eU (aH day p gs)):=
  RS gs day p _ (h.force day p).1 (h.force day p).2.1 (h.force day p).2.2
theorem OkG.okB{gs:List PGaz}(h:OkG gs)(day:Int)(p:aI):OkB (aH day p gs):=HH Ra (h.force day p).2.1
noncomputable def QI(a:PAct):Bool:=aj (ao 40 (Int.ofNat a.items.length))&&aj (ao 300 (Int.ofNat a.title.length))&&aj (ao 100 (Int.ofNat a.start.event.length))
noncomputable def Br(a:PAct):Bool:=QI a&&a.items.all mO
def Z0(a:PAct)(x0:Nat×List PItem×Unit):Prop:=(a.items).drop x0.1=x0.2.1∧a.items.all mO=x0.2.1.all mO
noncomputable def ZT(a:PAct)(x0:Nat×List PItem×Unit):List AV×List AObj:=([AV.pptr [AV.agg [iV a.number,AV.str a.title,iV a.day,iV a.start.kind,iV a.start.day,AV.str a.start.event,AV.ls (a.items.map NT)]] 0 0,nV x0.1],[])
theorem Ul(a:PAct)(hf:NE a):kP 50 [ay a] (.bool (Br a)):=by
  have fa:a.items.length<2^60:=hf.1
  have rr0 b' (h:(Br a)=b':=by simp only[Br,QI,aS,aj,bS, *]):=h;exact bD Tryz.func50<|Kl 4 6 (ln NT a.items)<|Ka 1 40 (Int.ofNat a.items.length) (fun b _=>Mt b<|Mt b<|Mt b<|MV b<|Ky 3<|rr0 false) fun b _=>Kh 0 b<|Kh 0 b<|Kh 0 b<|Kw 0 b<|Ka 0 300 (Int.ofNat<|List.length a.title) (fun b _=>Mt b<|Mt b<|Mt b<|Mt b<|MV b<|Ky 1<|rr0 false) fun b _=>Kh 0 b<|Kh 0 b<|Kh 0 b<|Kh 0 b<|Kw 0 b<|Mb (ao 100<|Int.ofNat<|List.length a.start.event) (fun b=>have:=am b;Ky 0<|rr0 false) fun b=>have:=aB b;K1 0 (.frz 0 [1,3]) ti<|vZ NT a.items [1,3] (fun b _=>([AV.pptr [ab [iV a.number,ax a.title,iV a.day,iV a.start.kind,iV a.start.day,ax a.start.event,aW<|a.items.map NT]] 0 0,nV b],[])) (fun b=>a.items.all mO=b.all mO) (by rfl) (fun _ _ _ _ _ b _=>Kl 3 24 (ln NT a.items)<|Kh 0 b<|Ky 0<|rr0 true) fun b _ c _ d e f g i _ j _=>have j:=j.trans<|congrArg some<|ee d;Kl 3 24 (ln NT a.items)<|Kt 0 i<|Kx 2 j<|Kp 0 (Ui d<|by exact hf.2 _ (bZ c g))<|Kn 0 (mO d) (fun _=>Kf 0<|ca<|rr0 false) fun _=>Kl 1 27 (dK b)<|Kf 0<|f<|by simp only[aS,aj,bS, *]at *
noncomputable def U6(g:PGaz):Bool:=ao 100 (Int.ofNat g.prior.length)||ao 20 (Int.ofNat g.acts.length)
noncomputable def xQ(g:PGaz):Bool:=aj (U6 g)&&g.acts.all Br
def Xk:List PAct→Int→Int
  |[],n=>n
  |a::r,n=>Xk r (n+1+Int.ofNat a.items.length)
def Jr:List PGaz→Int→Int
  |[],n=>n
  |g::r,n=>Jr r (Xk g.acts n)
noncomputable def CN(gs:List PGaz):Bool:=gs.all xQ&&(aj (ao 60 (Jr gs 0))&&aj (ao 8 (Int.ofNat gs.length)))
theorem R8{x:Bool}(h:aj x=true):x=false:=by cases x with|false=>rfl|true=>cases h
theorem G9{a:PAct}(h:Br a=true):a.items.length≤40:=by
  unfold Br QI at h
  simp only[bq]at h
  have:=aB (R8 h.1.1.1)
  simp only[oN]at this;omega
theorem RV(gs:List PGaz)(hf:po gs)(hl:gs.length<2^47):kP 30 [.ls (gs.map af)] (.bool (CN gs)):=by
  obtain⟨f0,f1⟩:=hf
  have fb:∀g,g∈gs→g.acts.length<2^60:=fun g hg=>(f1 g hg).1
  have rr0 b' (h:(CN gs)=b':=by(simp only[CN,xQ,U6,Jr,aS,aj,bS, *];done)):=h;exact bD Tryz.func30<|Mg 2<|JI af gs (0:Int) [0,3,4] (fun a _ b=>([aW<|gs.map af,iV b,nV a],[])) (fun a b=>(0:Int)≤b∧b+(1000:Int)*Int.ofNat a.length≤(1000:Int)*Int.ofNat gs.length∧gs.all xQ=a.all xQ∧Jr gs (0:Int)=Jr a b) (by(refine⟨by omega,by simp only[oN]at *;omega,rfl,rfl⟩)) (fun _ _ a _ _ _ b _=>Kl 2 8 (ln af gs)<|Kh 0 b<|Kd 2 60 a (fun a _=>Kt 0 (cX a)<|Kl 0 65 (ln af gs)<|Mt (cX a)<|Ku 0 (cX a)<|Kf 0<|ca<|rr0<|aj<|ao 8<|Int.ofNat gs.length) fun a _=>Mh (b0 a)<|Mh (b0 a)<|My (b0 a)<|Ky 0<|rr0 false) fun a _ b c _ d f i j k _ l m=>Kl 2 8 (ln af gs)<|Kt 0 k<|Kx 1 l<|Ka 4 100 (Int.ofNat<|List.length d.prior) (fun a _=>Mt a<|Mt a<|Mt a<|Mt a<|Mt a<|Mt a<|MV a<|Ky 1<|rr0 false) fun k _=>Kh 0 k<|Kh 0 k<|Mx l<|Mh k<|Kh 0 k<|Kh 0 k<|Kl 0 25 (ln ay d.acts)<|Mh k<|Kw 0 k<|Mb (ao 20<|Int.ofNat d.acts.length) (fun a=>have:=am a;Ky 0<|rr0 false) fun k=>have:=aB k;Mg 0<|JI ay d.acts b [0,3,4,5] (fun b _ c=>([aW<|gs.map af,iV c,nV a,nV b],[])) (fun a b=>(0:Int)≤b∧b+(41:Int)*Int.ofNat a.length+(1000:Int)*Int.ofNat f.length≤(1000:Int)*Int.ofNat gs.length∧d.acts.all Br=a.all Br∧True∧Jr gs (0:Int)=Jr f (Xk a b)) (by(refine⟨m.1,by have:=m.2.1;simp only[oN,lC]at *;omega,rfl,trivial,m.2.2.2⟩)) (fun _ _ b _ _ _ c j=>Kx 2 l<|Kl 2 34 (ln ay d.acts)<|Kh 0 c<|Kl 1 11 (dK a)<|Kf 0<|i b<|by(refine⟨j.1,by have:=j.2.1;simp only[oN,lN,lC]at *;omega,?_,j.2.2.2.2⟩;have e:=j.2.2.1;simp only[xQ,U6,List.all_cons,List.all_nil,aS,aj,bS, *]at *)) fun a _ b i _ k m n o p _ q r=>have:=fb d<|bZ c j;have:=((f1 d<|bZ c j).2 k<|bZ i o).1;Kx 2 l<|Kl 2 34 (ln ay d.acts)<|Kt 0 p<|Kx 1 l<|Kx 2 q<|Kp 0 (Ul k<|by first|exact(f1 _ (bZ c j)).2 _ (bZ i o))<|Kn 0 (Br k) (fun _=>Kf 0<|ca<|rr0 false) fun _=>Kl 1 49 (Le.wr (x:=b+1) e9)<|Kx 1 l<|Kx 2 q<|Kl 2 59 (ln NT k.items)<|Kl 0 60 (Le.wr (x:=b+1+Int.ofNat k.items.length) e9)<|Kl 2 37 (dK a)<|Kf 0<|n (b+1+Int.ofNat k.items.length)<|by(refine⟨by simp only[oN]at *;omega,by(have:=r.2.1;have:=G9 (by assumption);simp only[oN,lC]at *;omega),?_,trivial,r.2.2.2.2⟩;simp only[aS,aj,bS, *]at *)
noncomputable def vO(gs:List PGaz)(p:aI):Bool:=CN gs&&aj (ao 100 (Int.ofNat p.length))
theorem NM(gs:List PGaz)(p:aI)(hf:po gs)(hl:gs.length<2^47):kP 9 [.ls (gs.map af),.str p] (.bool (vO gs p)):=by
  have rr0 b' (h:(vO gs p)=b':=by simp only[vO,aS,aj,bS, *]):=h;exact bD Tryz.func9<|Kp 1 (RV gs hf hl)<|Kb 0 (CN gs) (fun a=>Kt 0 a<|Kt 0 a<|Ku 0 a<|Kf 0<|ca<|rr0<|aj<|ao 100<|Int.ofNat<|List.length p) fun a=>Mh a<|Mh a<|My a<|Ky 0<|rr0 false
theorem P0{gs:List PGaz}{p:aI}(hf:po gs)(h:vO gs p=true):OkG gs:=by
  unfold vO CN at h
  simp only[bq]at h
  obtain⟨⟨h1,_,h3⟩,_⟩:=h
  have h3:=aB (R8 h3)
  have hg:∀g,g∈gs→xQ g=true:=fun g hg=>l9.1 h1 g hg
  refine⟨hf,by simp only[oN]at h3;omega,fun g h=>?_,fun g h a ha=>?_⟩
  · have z:=hg g h
    unfold xQ U6 at z
    have z:=aB (BM.1 (R8 (pg.1 z).1)).2
    simp only[oN]at z;omega
  · have z:=hg g h
    unfold xQ at z
    have z:=l9.1 (pg.1 z).2 a ha
    refine⟨G9 z,?_⟩
    unfold Br at z
    exact fun x hx=>l9.1 (pg.1 z).2 x hx
end Go.Proofs.YtaepacpodblomaaGreatDoor
