/- Functions walked: what each of them answers, for the law of order: part 7. Conditions: those that each theorem names. -/
import Derived.Test.YtempcdhknnjebaaGreatDoorH6
namespace Go.Proofs.YtempcdhknnjebaaGreatDoor
open Go Go.Ev
theorem wK:kP 68 [.nils] (.ls ((iN []).map aJ)):=(iF [] (by simp)).onArgs (.cons Le.nils .nil)
theorem CG {g:Int→Bool} {K:List Int} {x e:Nat} {S:List PSpan} (h:S=jH g (K.drop (x - 1))) (h1:1≤x) (h2:x<K.length) (hg:g (gD K (x - 1))=true) (he:e=x+1):S=⟨gD K (x - 1),gD K x⟩::jH g (K.drop (e - 1)):=by rw [h,Bf h1 h2,hg,he]
theorem CH {g:Int→Bool} {K:List Int} {x e:Nat} {S:List PSpan} (h:S=jH g (K.drop (x - 1))) (h1:1≤x) (h2:x<K.length) (hg:g (gD K (x - 1))=false) (he:e=x+1):S=jH g (K.drop (e - 1)):=by rw [h,Bf h1 h2,hg,he]
theorem Xt:bU (dt (oT [])) = []:=pt (by have z:=zN [];exact Nat.le_zero.1 z)
theorem WW {A B x y:List PSpan} (h1:A=x) (h2:B=y):x++y=A++B:=by rw [h1,h2]
theorem Q3 {A B x:List PSpan} (h1:A=x) (h2:B = []):x=A++B:=by rw [h1,h2,eX]
theorem UD {A B y:List PSpan} (h1:A = []) (h2:B=y):y=A++B:=by rw [h1,h2];rfl
theorem S1 {A r:List PSpan} {w:PSpan} (h:A=w::r) (hl:A.length≤1048577):r.length<2 ^ 30:=by rw [h,lC] at hl;omega
theorem R3 {A B:List PSpan} {w v:PSpan} {r s:List PSpan} (h:A=w::r) (k:B=v::s) (hl:A.length≤1048577) (kl:B.length≤1048577):small (r.length+1+((v::s).map aJ).length) 16=true:=by
  rw [h,lC] at hl;rw [k,lC] at kl
  rw [lM,lC];refine cT (m:=2 ^ 31) ?_ ?_ ?_ <;> omega
theorem Jx {B:List PSpan} {v:PSpan} {s:List PSpan} (k:B=v::s) (kl:B.length≤1048577):small ((v::s).map aJ).length 16=true:=by
  rw [k,lC] at kl
  rw [lM,lC];refine cT (m:=2 ^ 31) ?_ ?_ ?_ <;> omega
def Q6 (F:Nat) (A:List PSpan) (B:List PSpan) (z20:List PSpan):Prop:=z20=A++B
noncomputable def Q5 (F:Nat) (A:List PSpan) (B:List PSpan) (z20:List PSpan):List AV × List AObj:=([AV.ls (A.map aJ),AV.ls (B.map aJ),AV.func (Fn.func F) [] [],AV.nils,AV.ls (z20.map aJ),nV z20.length,iV 0], [])
def NZ (F:Nat) (A:List PSpan) (B:List PSpan) (z20:List PSpan) (z37:List Int):Prop:=z37=iZ z20
noncomputable def NQ (F:Nat) (A:List PSpan) (B:List PSpan) (z20:List PSpan) (z37:List Int):List AV × List AObj:=([AV.ls (A.map aJ),AV.ls (B.map aJ),AV.func (Fn.func F) [] [],AV.ls (z37.map ab)], [])
def M9 (F:Nat) (A:List PSpan) (B:List PSpan) (z20:List PSpan) (z37:List Int):Prop:=z37=iZ z20
noncomputable def M8 (F:Nat) (A:List PSpan) (B:List PSpan) (z20:List PSpan) (z37:List Int):List AV × List AObj:=([AV.ls (A.map aJ),AV.ls (B.map aJ),AV.func (Fn.func F) [] [],AV.ls (z37.map ab)], [])
theorem KN (F:Nat) (op:Bool→Bool→Bool) (hF : ∀ x y,aP Tryz.prog G F [.bool x, .bool y] (.bool (op x y))) (e0:op false false=false) (a b:List PSpan) (ha:a.length<2 ^ 30) (hb:b.length<2 ^ 30) :
    aP Tryz.prog G 324 [.ls (a.map aJ), .ls (b.map aJ), .func (.func F) [] []] (.ls ((rn op a b).map aJ)):=by
  have nA:=iF a ha
  have nB:=iF b hb
  have hA:=mZ a
  have hB:=mZ b
  have hd:=NX e0 (a:=a) (b:=b) rfl rfl
  generalize iN a=A at *
  generalize iN b=B at *
  have lA:=hA.len
  have lB:=hB.len
  have hasA : ∀ d,aP Tryz.prog G 67 [.ls (A.map aJ), .int .i64 d] (.bool (iz A d)):=fun d=>Iz A d hA.sort (by omega)
  have hasB : ∀ d,aP Tryz.prog G 67 [.ls (B.map aJ), .int .i64 d] (.bool (iz B d)):=fun d=>Iz B d hB.sort (by omega)
  obtain ⟨g,hg⟩ : ∃ g:Int→Bool,g=fun d=>op (iz A d) (iz B d):=⟨_,rfl⟩
  have hgv : ∀ d v0,op (iz A d) (iz B d)=v0→g d=v0:=fun d v0 h=>by rw [hg];exact h
  rw [← hg] at hd
  have hcl : ∀ x,x=A++B→(iZ x).length<2 ^ 30:=fun x hx=>by
    have z:=zN x
    rw [hx,dO] at z
    rw [hx];omega
  have hll : ∀ x,x=A++B→x.length<2 ^ 22:=fun x hx=>by rw [hx,dO];omega
  obtain ⟨res,hres⟩ : ∃ res,res=rn op a b:=⟨_,rfl⟩
  rw [← hres] at hd ⊢
  have hdone : ∀ x y z,x=A++B→y=iZ x→jH g y=z→iN z=res:=fun x y z h1 h2 h3=>by rw [← h3,h2,h1];exact hd
  clear hd hg hres hA hB
  have rr0 b' (h:(List.map aJ res)=b':=by first | rfl | exact hdone _ _ _ hz20 hz37 (by rw [hx1.2.2,kp hx1.1 (by (first | omega | (simp only [aL] at *;omega)))]) | exact (hdone _ _ _ hz20 hz37 (by rw [hx1.2.2.2.2,kp hx1.1 (by (first | omega | (simp only [aL] at *;omega))),eX])) | (rw [hdone _ _ _ hz20 hz37 (by rw [hx1.2.2,kp hx1.1 (by (first | omega | (simp only [aL] at *;omega)))])]) | (rw [hdone _ _ _ hz20 hz37 (by rw [hx1.2.2.2.2,kp hx1.1 (by (first | omega | (simp only [aL] at *;omega))),eX])])):=h;exact bo Tryz.func324<|Kp 1 nA<|Kp 0 nB<|Mg 2<|M0 .inn<|Mj (List PSpan) [0,1,2,7,20,21,22] (Q5 F A B) (Q6 F A B) (fun c=>Mg 0<|Mc A (fun e=>Ml 17 (eb<|by rw [e];rfl:Le (aW []) (aW (List.map aJ A)))<|Mz 17 (fun (_:([]:List AV) = [])=>Mg 1<|Mc B (fun e=>Ml 19 (eb<|by rw [e];rfl:Le (aW []) (aW (List.map aJ B)))<|Kl 0 20 bA<|Kf 1<|c [] (by exact Q3 (by assumption) (by assumption):[]=A++B)) fun e f i=>Ml 19 (eb<|by rw [i]:Le (aW (List.map aJ (e::f))) (aW (List.map aJ B)))<|M2 .apl (et (by exact kX _ _:List.map aJ (e::f)≠ [])<|fM 2 aJ (e::f) fun _=>rfl) (by exact Jx (by assumption) lB:small (List.map aJ (e::f)).length 16=true)<|M2 (.fsl 0 [0,1,2,7] 20<|List.map aJ<|e::f) True.intro (bT (aY 0) (tA aJ (e::f) (List.map aJ<|e::f).length (by (simp only [bI,cH,dO];done):(e::f).length=(List.map aJ (e::f)).length))<|aX Ut<|e::f)<|Ml 20 (fK (List.map aJ<|e::f) false<|aX Ut<|e::f)<|Kl 0 21 (ln aJ<|e::f)<|Kf 0<|c (e::f) (by exact UD (by assumption) (by assumption):e::f=A++B))<|Mg 1<|Mc B (fun e=>Ml 19 (eb<|by rw [e];rfl:Le (aW []) (aW (List.map aJ B)))<|Kl 0 20 (fK [] true (aY 0:aq ([])=0))<|Kf 1<|c [] (by exact Q3 (by assumption) (by assumption):[]=A++B)) fun e f i=>Ml 19 (eb<|by rw [i]:Le (aW (List.map aJ (e::f))) (aW (List.map aJ B)))<|M2 .apl (et (by exact kX _ _:List.map aJ (e::f)≠ [])<|fM 2 aJ (e::f) fun _=>rfl) (by exact Jx (by assumption) lB:small (List.map aJ (e::f)).length 16=true)<|M2 (.fsl 0 [0,1,2,7] 20<|List.map aJ<|e::f) True.intro (bT (aY 0) (tA aJ (e::f) (List.map aJ<|e::f).length (by (simp only [bI,cH,dO];done):(e::f).length=(List.map aJ (e::f)).length))<|aX Ut<|e::f)<|Ml 20 (fK (List.map aJ<|e::f) false<|aX Ut<|e::f)<|Kl 0 21 (ln aJ<|e::f)<|Kf 0<|c (e::f) (by exact UD (by assumption) (by assumption):e::f=A++B)) fun e f i=>Ml 17 (eb<|by rw [i]:Le (aW (List.map aJ (e::f))) (aW (List.map aJ A)))<|Me (QI e f<|by exact S1 (by assumption) lA)<|Mg 0<|Mc B (fun i=>Ml 19 (eb<|by rw [i];rfl:Le (aW []) (aW (List.map aJ B)))<|Mg 0<|M2 (.fsl 0 [0,1,2,7] 20<|List.map aJ<|e::f) True.intro (bT (aY 0) (tA aJ (e::f) (f.length+1) rfl)<|aX Ut<|e::f)<|Ml 20 (fK (List.map aJ<|e::f) false<|aX Ut<|e::f)<|Kl 0 21 (ln aJ<|e::f)<|Kf 0<|c (e::f) (by exact Q3 (by assumption) (by assumption):e::f=A++B)) fun i j k=>Ml 19 (eb<|by rw [k]:Le (aW (List.map aJ (i::j))) (aW (List.map aJ B)))<|M2 .apl (et (by exact kX _ _:List.map aJ (i::j)≠ [])<|fM 2 aJ (i::j) fun _=>rfl) (bT (aY 0) (by (simp only [bI,cH,dO];done):f.length+1=(List.map aJ (e::f)).length) (by exact R3 (by assumption) (by assumption) lA lB:small (f.length+1+(List.map aJ (i::j)).length) 16=true))<|M1 (.obj 0<|aZ 2 true (0+1)<|List.map aJ<|e::f++i::j) (congrArg (aZ 2 true<|0+1)<|cN (f:=aJ) (l:=e::f) (ws:=i::j))<|M2 (.fsl 0 [0,1,2,7] 20<|List.map aJ<|e::f++i::j) True.intro (bT (aY<|0+1) (tA aJ (e::f++i::j) (f.length+1+(List.map aJ<|i::j).length) (by (simp only [bI,cH,dO];done):(e::f++i::j).length=f.length+1+(List.map aJ (i::j)).length))<|aX Ut<|e::f++i::j)<|Ml 20 (fK (List.map aJ<|e::f++i::j) false<|aX Ut<|e::f++i::j)<|Kl 0 21 (ln aJ<|e::f++i::j)<|Kf 0<|c (e::f++i::j) (by exact WW (by assumption) (by assumption):e::f++i::j=A++B)) fun c hz20=>have hz20:=hz20;kQ Nat Nat (List Int) aJ c [0,1,2,7,20,21,22] (fun e _=>([aW<|A.map aJ,aW<|B.map aJ,bJ (bW F) [] [],af,aW<|c.map aJ,nV c.length,nV e],[])) (fun e _ f i j=>([aW<|A.map aJ,aW<|B.map aJ,bJ (bW F) [] [],aD 0 f 0 i none,aW<|c.map aJ,nV c.length,nV e],[aZ 1 true f<|j.map ab])) (fun e=>oT c=oT e) (fun e _ f i=>f=i.length∧(0:Nat)<i.length∧oT c=i++oT e) (by rfl) (fun _ _ _ _ _ e f=>Kh 0 e<|Kp 0 Fl<|Mj (List Int) [0,1,2,7] (NQ F A B c) (NZ F A B c) (fun e=>Kl 1 37 bA<|Kf 0<|e [] (by (unfold iZ;rw [f];exact Xt.symm):[]=iZ c)) fun e hz37=>have hz37:=hz37;have :=hz37 ▸ hcl _ hz20;Mg 1<|Rh Nat Nat Nat (List PSpan) (1:Nat) [0,1,2,7,10,11] (fun c=>([aW<|A.map aJ,aW<|B.map aJ,bJ (bW F) [] [],aW<|e.map ab,af,nV c],[])) (fun c f i j=>([aW<|A.map aJ,aW<|B.map aJ,bJ (bW F) [] [],aW<|e.map ab,aD 0 f 0 i none,nV c],[aZ 2 true f<|j.map aJ])) (fun c=>(1:Nat)≤c∧c≤2 ^ 30∧jH g e=jH g (e.drop<|c - 1)) (fun c _ f i=>(1:Nat)≤c∧c≤2 ^ 30∧f=i.length∧i.length<c∧jH g e=i++jH g (e.drop<|c - 1)) (fun c=>2 ^ 31 - c) (fun c _ _ _=>2 ^ 31 - c) (by exact ⟨al _,by omega,rfl⟩) (fun c hx1 f i=>have hx1:=hx1;have :=hx1.1;have :=hx1.2.1;Kl 2 40 (ln ab e)<|Ka 0 (Int.ofNat c) (Int.ofNat e.length) (fun _ _=>Kl 2 46 (BJ c)<|Mx (aM ab (by (simp only [aL,bI,kJ] at *;omega):c - 1<(e).length))<|Kp 4 (hasA<|gD e<|c - 1)<|Kp 1 (hasB<|gD e<|c - 1)<|Mp (hF (iz A<|gD e<|c - 1)<|iz B<|gD e<|c - 1)<|Mb (op (iz A<|gD e<|c - 1)<|iz B<|gD e<|c - 1) (fun _=>Kx 3 (aM ab (by (simp only [aL,bI,kJ] at *;omega):c<(e).length))<|Kl 6 43 (gP c)<|Kf 0<|i (c+1) 0 1 [PSpan.mk (gD e<|c - 1)<|gD e c] (by exact ⟨by (omega),by (simp only [aL] at *;omega),rfl,by (simp only [cH,gy];omega),CG hx1.2.2 hx1.1 (by (simp only [aL] at *;omega)) (hgv _ _ (by assumption)) rfl⟩)<|by (omega)) fun _=>Kl 1 43 (gP c)<|Kf 0<|f (c+1) (by exact ⟨by (omega),by (simp only [aL] at *;omega),CH hx1.2.2 hx1.1 (by (simp only [aL] at *;omega)) (hgv _ _ (by assumption)) rfl⟩)<|by (omega)) fun _ _=>Kp 0 wK<|Kf 0<|cJ<|rr0<|List.map aJ<|iN []) fun c i j k hx1 _ l=>have hx1:=hx1;have :=hx1.1;have :=hx1.2.1;Kl 2 40 (ln ab e)<|Ka 0 (Int.ofNat c) (Int.ofNat e.length) (fun _ _=>Kl 2 46 (BJ c)<|Mx (aM ab (by (simp only [aL,bI,kJ] at *;omega):c - 1<(e).length))<|Kp 4 (hasA<|gD e<|c - 1)<|Kp 1 (hasB<|gD e<|c - 1)<|Mp (hF (iz A<|gD e<|c - 1)<|iz B<|gD e<|c - 1)<|Mb (op (iz A<|gD e<|c - 1)<|iz B<|gD e<|c - 1) (fun _=>Kx 3 (aM ab (by (simp only [aL,bI,kJ] at *;omega):c<(e).length))<|K1 2 .app (bT (aY i) (by (rw [bI];first | exact f.1 | exact hx1.2.2.1):j=(List.map aJ k).length) (by (refine cT (m:=2 ^ 31) ?_ ?_ ?_ <;> first | omega | (simp only [bI,cH,dO,gy];omega) | (have z:=congrArg List.length f.2.2;rw [j6,dO] at z;have z9:=hll _ hz20;have z2:=f.1;first | omega | (simp only [cH,gy];omega)) | (have z:=hx1.2.2.2.1;have z2:=hx1.2.2.1;have z3:=hx1.2.1;first | omega | (simp only [cH,gy];omega))):small (j+1) 16=true))<|M1 (.obj 0<|aZ 2 true (i+1)<|List.map aJ<|k++ [PSpan.mk (gD e<|c - 1)<|gD e c]) (congrArg (aZ 2 true<|i+1)<|cN (f:=aJ) (l:=k) (ws:=[PSpan.mk (gD e<|c - 1)<|gD e c]))<|Kl 2 43 (gP c)<|Kf 0<|l (c+1) (i+1) (j+1) (k++ [PSpan.mk (gD e<|c - 1)<|gD e c]) (by exact ⟨by (omega),by (simp only [aL] at *;omega),by rw [dO,← hx1.2.2.1];rfl,by (have z:=hx1.2.2.2.1;simp only [dO,cH,gy];omega),by rw [hx1.2.2.2.2,CG rfl hx1.1 (by (simp only [aL] at *;omega)) (hgv _ _ (by assumption)) rfl];simp⟩)<|by (omega)) fun _=>Kl 1 43 (gP c)<|Kf 0<|l (c+1) i j k (by exact ⟨by (omega),by (simp only [aL] at *;omega),hx1.2.2.1,by (have z:=hx1.2.2.2.1;omega),by rw [hx1.2.2.2.2,CH rfl hx1.1 (by (simp only [aL] at *;omega)) (hgv _ _ (by assumption)) rfl]⟩)<|by (omega)) fun _ _=>Mg 0<|M2 (.fsl 0 [] 66<|List.map aJ k) True.intro (bT (aY i) (tA aJ k j (by (omega):(k).length=j))<|aX Ut k)<|Ml 66 (fK (List.map aJ k) false<|aX Ut k)<|Mp (iF k<|by (omega))<|Kf 0<|cJ<|rr0<|List.map aJ<|iN k) (fun e _ _ _ f i _ j _ k _ l n=>have :=hll _ hz20;Kt 0 k<|Mx l<|Kl 11 33 (gP e)<|Mg 0<|M0 (.ren [1,0] [] [0,1,2,7,20,21,22])<|M1 (.frz 1 [0,1,2,7,20,21,22]) (et (aY true) True.intro)<|Mf<|j 0 2 [f.from_,f.to]<|by exact ⟨rfl,by simp,by rw [n];rfl⟩) (fun _ _ e f i _ _ _ j k=>Kh 0 j<|Ke 0 (IK i e f (by (omega)) (by (omega))<|by (have z:=congrArg List.length k.2.2;rw [j6,dO] at z;have z9:=hll _ hz20;omega))<|Mj (List Int) [0,1,2,7] (M8 F A B c) (M9 F A B c) (fun j=>Ke 0 (AE (dt i) e f (by (rw [(kw _).length_eq];first | exact k.1 | exact k.2.1 | (have z:=congrArg List.length k.2.2;rw [j6,dO] at z;have z9:=hll _ hz20;omega))) (by (rw [(kw _).length_eq];first | exact k.1 | exact k.2.1 | (have z:=congrArg List.length k.2.2;rw [j6,dO] at z;have z9:=hll _ hz20;omega)))<|by (rw [(kw _).length_eq];first | exact k.1 | exact k.2.1 | (have z:=congrArg List.length k.2.2;rw [j6,dO] at z;have z9:=hll _ hz20;omega)))<|M2 (.fsl 0 [0,1,2] 37<|List.map ab<|List.take (bU<|dt i).length<|bU (dt i)++List.replicate ((dt i).length - (bU<|dt i).length) 0) True.intro (bT (aY e) (Bv (f:=ab) (l:=bU (dt i)++List.replicate ((dt i).length - (bU<|dt i).length) 0) (n:=(bU<|dt i).length))<|aX Ir<|List.take (bU<|dt i).length<|bU (dt i)++List.replicate ((dt i).length - (bU<|dt i).length) 0)<|Ml 37 (fK (List.map ab<|List.take (bU<|dt i).length<|bU (dt i)++List.replicate ((dt i).length - (bU<|dt i).length) 0) false<|aX Ir<|List.take (bU<|dt i).length<|bU (dt i)++List.replicate ((dt i).length - (bU<|dt i).length) 0)<|Kf 0<|j (List.take (bU<|dt i).length<|bU (dt i)++List.replicate ((dt i).length - (bU<|dt i).length) 0) (by (unfold iZ;rw [k.2.2];simp [oT]):List.take (bU (dt i)).length (bU (dt i)++List.replicate ((dt i).length - (bU (dt i)).length) (0:Int))=iZ c)) fun e hz37=>have hz37:=hz37;have :=hz37 ▸ hcl _ hz20;Mg 1<|Rh Nat Nat Nat (List PSpan) (1:Nat) [0,1,2,7,10,11] (fun c=>([aW<|A.map aJ,aW<|B.map aJ,bJ (bW F) [] [],aW<|e.map ab,af,nV c],[])) (fun c f i j=>([aW<|A.map aJ,aW<|B.map aJ,bJ (bW F) [] [],aW<|e.map ab,aD 0 f 0 i none,nV c],[aZ 2 true f<|j.map aJ])) (fun c=>(1:Nat)≤c∧c≤2 ^ 30∧jH g e=jH g (e.drop<|c - 1)) (fun c _ f i=>(1:Nat)≤c∧c≤2 ^ 30∧f=i.length∧i.length<c∧jH g e=i++jH g (e.drop<|c - 1)) (fun c=>2 ^ 31 - c) (fun c _ _ _=>2 ^ 31 - c) (by exact ⟨al _,by omega,rfl⟩) (fun c hx1 f i=>have hx1:=hx1;have :=hx1.1;have :=hx1.2.1;Kl 2 40 (ln ab e)<|Ka 0 (Int.ofNat c) (Int.ofNat e.length) (fun _ _=>Kl 2 46 (BJ c)<|Mx (aM ab (by (simp only [aL,bI,kJ] at *;omega):c - 1<(e).length))<|Kp 4 (hasA<|gD e<|c - 1)<|Kp 1 (hasB<|gD e<|c - 1)<|Mp (hF (iz A<|gD e<|c - 1)<|iz B<|gD e<|c - 1)<|Mb (op (iz A<|gD e<|c - 1)<|iz B<|gD e<|c - 1) (fun _=>Kx 3 (aM ab (by (simp only [aL,bI,kJ] at *;omega):c<(e).length))<|Kl 6 43 (gP c)<|Kf 0<|i (c+1) 0 1 [PSpan.mk (gD e<|c - 1)<|gD e c] (by exact ⟨by (omega),by (simp only [aL] at *;omega),rfl,by (simp only [cH,gy];omega),CG hx1.2.2 hx1.1 (by (simp only [aL] at *;omega)) (hgv _ _ (by assumption)) rfl⟩)<|by (omega)) fun _=>Kl 1 43 (gP c)<|Kf 0<|f (c+1) (by exact ⟨by (omega),by (simp only [aL] at *;omega),CH hx1.2.2 hx1.1 (by (simp only [aL] at *;omega)) (hgv _ _ (by assumption)) rfl⟩)<|by (omega)) fun _ _=>Kp 0 wK<|Kf 0<|cJ<|rr0<|List.map aJ<|iN []) fun c f i j hx1 _ l=>have hx1:=hx1;have :=hx1.1;have :=hx1.2.1;Kl 2 40 (ln ab e)<|Ka 0 (Int.ofNat c) (Int.ofNat e.length) (fun _ _=>Kl 2 46 (BJ c)<|Mx (aM ab (by (simp only [aL,bI,kJ] at *;omega):c - 1<(e).length))<|Kp 4 (hasA<|gD e<|c - 1)<|Kp 1 (hasB<|gD e<|c - 1)<|Mp (hF (iz A<|gD e<|c - 1)<|iz B<|gD e<|c - 1)<|Mb (op (iz A<|gD e<|c - 1)<|iz B<|gD e<|c - 1) (fun _=>Kx 3 (aM ab (by (simp only [aL,bI,kJ] at *;omega):c<(e).length))<|K1 2 .app (bT (aY f) (by (rw [bI];first | exact k.1 | exact hx1.2.2.1):i=(List.map aJ j).length) (by (refine cT (m:=2 ^ 31) ?_ ?_ ?_ <;> first | omega | (simp only [bI,cH,dO,gy];omega) | (have z:=congrArg List.length k.2.2;rw [j6,dO] at z;have z9:=hll _ hz20;have z2:=k.1;first | omega | (simp only [cH,gy];omega)) | (have z:=hx1.2.2.2.1;have z2:=hx1.2.2.1;have z3:=hx1.2.1;first | omega | (simp only [cH,gy];omega))):small (i+1) 16=true))<|M1 (.obj 0<|aZ 2 true (f+1)<|List.map aJ<|j++ [PSpan.mk (gD e<|c - 1)<|gD e c]) (congrArg (aZ 2 true<|f+1)<|cN (f:=aJ) (l:=j) (ws:=[PSpan.mk (gD e<|c - 1)<|gD e c]))<|Kl 2 43 (gP c)<|Kf 0<|l (c+1) (f+1) (i+1) (j++ [PSpan.mk (gD e<|c - 1)<|gD e c]) (by exact ⟨by (omega),by (simp only [aL] at *;omega),by rw [dO,← hx1.2.2.1];rfl,by (have z:=hx1.2.2.2.1;simp only [dO,cH,gy];omega),by rw [hx1.2.2.2.2,CG rfl hx1.1 (by (simp only [aL] at *;omega)) (hgv _ _ (by assumption)) rfl];simp⟩)<|by (omega)) fun _=>Kl 1 43 (gP c)<|Kf 0<|l (c+1) f i j (by exact ⟨by (omega),by (simp only [aL] at *;omega),hx1.2.2.1,by (have z:=hx1.2.2.2.1;omega),by rw [hx1.2.2.2.2,CH rfl hx1.1 (by (simp only [aL] at *;omega)) (hgv _ _ (by assumption)) rfl]⟩)<|by (omega)) fun _ _=>Mg 0<|M2 (.fsl 0 [] 66<|List.map aJ j) True.intro (bT (aY f) (tA aJ j i (by (omega):(j).length=i))<|aX Ut j)<|Ml 66 (fK (List.map aJ j) false<|aX Ut j)<|Mp (iF j<|by (omega))<|Kf 0<|cJ<|rr0<|List.map aJ<|iN j) fun e _ f i j _ _ k l _ n _ o _ p q=>have :=hll _ hz20;Kt 0 o<|Mx p<|K1 8 .app (bT (aY f) (by (rw [bI];first | exact q.1 | exact hx1.2.2.1):i=(List.map ab j).length) (by (refine cT (m:=2 ^ 31) ?_ ?_ ?_ <;> first | omega | (simp only [bI,cH,dO,gy];omega) | (have z:=congrArg List.length q.2.2;rw [j6,dO] at z;have z9:=hll _ hz20;have z2:=q.1;first | omega | (simp only [cH,gy];omega)) | (have z:=hx1.2.2.2.1;have z2:=hx1.2.2.1;have z3:=hx1.2.1;first | omega | (simp only [cH,gy];omega))):small (i+2) 8=true))<|M1 (.obj 0<|aZ 1 true (f+1)<|List.map ab<|j++ [k.from_,k.to]) (congrArg (aZ 1 true<|f+1)<|cN (f:=ab) (l:=j) (ws:=[k.from_,k.to]))<|Kl 1 33 (gP e)<|K1 0 (.frz 1 [0,1,2,7,20,21,22]) (et (tR 1 true (f+1) 1<|aX Ir<|j++ [k.from_,k.to]) True.intro)<|Mf<|n (f+1) (i+2) (j++ [k.from_,k.to])<|by exact ⟨by rw [dO,← q.1];rfl,by simp,by rw [q.2.2,CU];simp⟩
theorem VV (x y:Bool):kP 325 [.bool x, .bool y] (.bool (x || y)):=by
  have rr0 b' (h:(x || y)=b':=by simp only [aS,ak,bS, *]):=h;exact bo Tryz.func325<|Kb 2 x (fun a=>MV a<|Ky 0<|rr0 true) fun a=>Kw 0 a<|Ky 0<|rr0 y
theorem UJ (x y:Bool):kP 326 [.bool x, .bool y] (.bool (x && y)):=by
  have rr0 b' (h:(x && y)=b':=by simp only [aS,ak,bS, *]):=h;exact bo Tryz.func326<|Kb 2 x (fun a=>Ku 0 a<|Ky 0<|rr0 y) fun a=>My a<|Ky 0<|rr0 false
theorem NM (a b:List PSpan) (ha:a.length<2 ^ 30) (hb:b.length<2 ^ 30):kP 278 [.ls (a.map aJ), .ls (b.map aJ)] (.ls ((rn (· || ·) a b).map aJ)):=by
  have h:=KN 325 (· || ·) VV rfl a b ha hb
  exact bo Tryz.func278<|Kp 2 h<|Kf 0<|bq<|aW<|(rn (fun c d=>c || d) a b).map aJ
theorem Pi (a b:List PSpan) (ha:a.length<2 ^ 30) (hb:b.length<2 ^ 30):kP 281 [.ls (a.map aJ), .ls (b.map aJ)] (.ls ((rn (· && ·) a b).map aJ)):=by
  have h:=KN 326 (· && ·) UJ rfl a b ha hb
  exact bo Tryz.func281<|Kp 2 h<|Kf 0<|bq<|aW<|(rn (fun c d=>c && d) a b).map aJ
noncomputable def ow (a:List PSpan) (d:Int):List PSpan:=rn (· && ·) a [⟨0,d⟩]
noncomputable def pa (a:List PSpan) (d:Int):List PSpan:=rn (· || ·) (ow a d) [⟨d,1048577⟩]
theorem rD (a:List PSpan) (d:Int):NrmS (ow a d):=yF _
theorem tH (a:List PSpan) (d:Int):NrmS (pa a d):=yF _
theorem Ed (a:List PSpan) (d:Int) (ha:a.length<2 ^ 30):kP 216 [.ls (a.map aJ),iV d] (.ls ((ow a d).map aJ)):=by
  have h:kP 281 [.ls (a.map aJ), .ps [aJ ⟨0,d⟩] true] (.ls ((ow a d).map aJ)):=(Pi a [⟨0,d⟩] ha (by simp)).onArgs (.cons (Le.refl _) (.cons (Le.ps _ _ rfl) .nil))
  exact bo Tryz.func216<|Kp 4 h<|Kf 0<|bq<|aW<|(ow a d).map aJ
theorem Qq (a:List PSpan) (d:Int) (ha:a.length<2 ^ 30):kP 214 [.ls (a.map aJ),iV d] (.ls ((pa a d).map aJ)):=by
  have h0:=Ed a d ha
  have hl:=(rD a d).len
  have h:kP 278 [.ls ((ow a d).map aJ), .ps [aJ ⟨d,1048577⟩] true] (.ls ((pa a d).map aJ)):=(NM (ow a d) [⟨d,1048577⟩] (by omega) (by simp)).onArgs (.cons (Le.refl _) (.cons (Le.ps _ _ rfl) .nil))
  exact bo Tryz.func214<|Kp 2 h0<|Kp 2 h<|Kf 0<|bq<|aW<|(pa a d).map aJ
noncomputable def rg (k:Int):Bool:=ae k 7 || ae k 9
noncomputable def kf (k:Int):Bool:=rg k || ae k 8
noncomputable def rj (k:Int):AV:=match rg k with | true=> .func (.func 214) [] [] | false=>match ae k 8 with | true=> .func (.func 216) [] [] | false=> .nilf
theorem y7 (k:Int):eD (some .nilf) true (bj false 1 [(0,1)] (iV k) [⟨iV 7, .func (.func 214) [] [],0⟩,⟨iV 9, .func (.func 214) [] [],1⟩,⟨iV 8, .func (.func 216) [] [],2⟩] 0)=some (.tuple [rj k, .bool (kf k)]):=by
  unfold rj kf rg
  simp only [bj,qJ,Gk,kV]
  cases h1:ae k 7 <;> cases h2:ae k 9 <;> cases h3:ae k 8 <;> rfl
theorem NT {k:Int} (h:rg k=true):Le (.func (.func 214) [] []) (rj k):=by unfold rj;rw [h];exact Le.refl _
theorem RI {k:Int} (h:rg k=false) (h2:kf k=true):Le (.func (.func 216) [] []) (rj k):=by
  unfold kf at h2;rw [h,Bool.false_or] at h2
  unfold rj;rw [h,h2];exact Le.refl _
noncomputable def N0:List AEnt:= [⟨iV 7, .func (.func 214) [] [],0⟩,⟨iV 9, .func (.func 214) [] [],1⟩,⟨iV 8, .func (.func 216) [] [],2⟩]
theorem RG (x:PItem):kD 119 [] (aa [.row 25 false 0 [eI x]]) (.map 1) (aa [.row 25 false 0 [eI x], .map N0 3]):=by
  exact fN Tryz.func119 fun a=>Kf 6 a
theorem RH (s:PStart) (d o:PDeed):kD 119 [] (aa [.row 3 false 0 [ao s], .row 28 false 0 [az d], .row 28 false 0 [az o]]) (.map 3) (aa [.row 3 false 0 [ao s], .row 28 false 0 [az d], .row 28 false 0 [az o], .map N0 3]):=by
  exact fN Tryz.func119 fun a=>Kf 6 a
noncomputable def qm (x:PItem) (a i:Int):Bool:=ae x.act a && (match ae x.kind 11 with | true=>ae x.item i | false=>kf x.kind && (ae x.item i || ae x.item (-1)))
theorem Lf (x:PItem) (a i:Int):kP 120 [eI x,iV a,iV i] (.bool (qm x a i)):=by
  have hlk:=y7
  have rr0 b' (h:(qm x a i)=b':=by unfold qm;generalize ae x.act a=p1 at *;generalize ae x.kind 11=p2 at *;generalize ae x.item i=p3 at *;generalize ae x.item (-1)=p4 at *;generalize kf x.kind=p5 at *;simp only [aS,ak,bS, *]):=h;let q:= [ay [iV x.kind,aW (x.at_.map ax),aW (x.to.map ax),iV x.where_,iV x.nth_,iV x.unit.act,iV x.unit.item,iV x.unit.n,iV x.unit.kind,aw x.unit.label,aW (x.unit.head.map aQ),aW (x.unit.words.map aQ),aW (x.unit.kids.map aK),aW (x.old.map mD),aW (x.new.map mD),aw x.label,aw x.for_,iV x.start.kind,iV x.start.day,aw x.start.event,iV x.act,iV x.item,iV x.day,aw x.event,aW (x.by_.map MH)]];let q1:=bJ (bW 214) [] [];exact bo Tryz.func120<|Kc 5 x.act a (fun _ _=>Ky 0<|rr0 false) fun _ _=>Kj 2 x.kind 11 (fun _ _=>Kf 4<|ca<|rr0<|ae x.item i) fun _ _=>M3 (.efx true (AV.map 1)<|aa [aZ 25 false 0 q,AObj.map [AEnt.mk (iV 7) q1 0,AEnt.mk (iV 9) q1 1,AEnt.mk (iV 8) (bJ (bW 216) [] []) 2] 3]) (et rt ti) (et (aY<|some<|aZ 25 false 0 q) ti) (RG x)<|K1 1 (.look<|cj [rj x.kind,dB<|kf x.kind]) (hlk x.kind)<|Kb 6 (kf x.kind) (fun b=>Kt 0 b<|Kt 0 b<|Kt 0 b<|Kt 0 b<|Kj 0 x.item i (fun c _=>Mt c<|Mt c<|Mt b<|MV c<|MV b<|Ky 0<|rr0 true) fun c _=>Kh 0 c<|Kh 0 c<|Kt 0 b<|My c<|MV b<|Kf 0<|ca<|rr0<|ae x.item (-1)) fun b=>Mh b<|Mh b<|Mh b<|Mh b<|Mh b<|My b<|Ky 0<|rr0 false
noncomputable abbrev gi (nm:aN):AObj:= .row 1 false 0 [.str nm]
noncomputable def rm (nm:aN) (d:PDeed):Bool:=ae d.it.kind 10 && dM d.it.event nm
theorem Qx (nm:aN) (d:PDeed):kD 280 [az d, .ptr 0 0 0 0] (aa [gi nm]) (.bool (rm nm d)) (aa [gi nm]):=by
  let q:=aa [aZ 1 false 0 [aw nm]];exact Rp Tryz.func280<|Kj 6 d.it.kind 10 (fun a _=>Kt 0 a<|Kt 0 a<|Kt 0 a<|Kt 0 a<|Ku 0 a<|K1 0 (.frz 1 [3]) (et rt ti)<|Mf<|et (by unfold rm;generalize ae d.it.kind 10=p1 at *;generalize dM d.it.event nm=p2 at *;simp only [aS,ak,bS, *]:(AV.bool (dM d.it.event nm))=(AV.bool (rm nm d)))<|aY q) fun a _=>Mh a<|Mh a<|Mh a<|Mh a<|My a<|K1 0 (.frz 1 [3]) (et rt ti)<|Mf<|et (by unfold rm;generalize ae d.it.kind 10=p1 at *;generalize dM d.it.event nm=p2 at *;simp only [aS,ak,bS, *]:(AV.bool false)=(AV.bool (rm nm d)))<|aY q
noncomputable def jQ (nm:aN):List PDeed→Nat→Int
  | [],_=> -1
  | d::r,i=>match rm nm d with | true=>Int.ofNat i | false=>jQ nm r (i+1)
theorem J9 (nm:aN) : ∀ (l:List PDeed) (i:Nat),jQ nm l i<Int.ofNat (i+l.length)∧(0≤jQ nm l i∨jQ nm l i = -1)
  | [],i=>⟨by simp only [jQ,oN];omega, .inr rfl⟩
  | d::r,i=>by
    have:=J9 nm r (i+1)
    cases h:rm nm d <;> simp only [jQ,h,oN,lC] at * <;> omega
theorem Xf {nm:aN} {d:PDeed} {r:List PDeed} {i:Nat} (h:rm nm d=true):jQ nm (d::r) i=Int.ofNat i:=by simp only [jQ,h]
theorem Xg {nm:aN} {d:PDeed} {r:List PDeed} {i:Nat} (h:rm nm d=false):jQ nm (d::r) i=jQ nm r (i+1):=by simp only [jQ,h]
theorem BT (nm:aN) (l:List PDeed) (hl:l.length<2 ^ 40):kD 279 [.ls (l.map az), .func (.func 280) [] [.ptr 0 0 0 0]] (aa [gi nm]) (iV (jQ nm l 0)) (aa [gi nm]):=by
  let q:=aa [aZ 1 false 0 [aw nm]];exact Rp Tryz.func279<|Kl 2 7 (ln az l)<|Mg 0<|sl az l [0,1,7,8] (fun a _=>([aW<|l.map az,bJ (bW 280) [] [bK 0 0 0 0],nV l.length,nV a],[aZ 1 false 0 [aw nm]])) (fun a=>jQ nm l (0:Nat)=jQ nm a (l.length - a.length)) (by (rw [Nat.sub_self])) (fun _ _ _ _ _ a b=>Kh 0 a<|Kf 0<|et (by (rw [b];rfl):(iV (-1))=(iV (jQ nm l 0)))<|aY q) fun a _ b _ c d e f g _ h i=>have :=gK b f;Kt 0 g<|Kx 4 h<|Ke 0 (Qx nm c)<|Mb (rm nm c) (fun _=>Kf 1<|et (by (rw [i,Xf (by assumption)];congr 2;have z:=yc (b.trans f) (by simp) (by simp only [lC];omega:(l.length - (d.length+1))+(c::d).length=l.length);exact z):(nV a)=(iV (jQ nm l 0)))<|aY q) fun _=>Kl 0 18 (dg a)<|Kf 0<|e<|by (rw [i,Xg (by assumption)];congr 1;have:=gK b f;simp only [lC];omega)
theorem Qz (d:Int):kP 214 [.nils,iV d] (.ls ((pa [] d).map aJ)):=(Qq [] d (by simp)).onArgs (.cons Le.nils (.cons (Le.refl _) .nil))
theorem Ie (nm:aN) (l:List PDeed) (hl:l.length<2 ^ 40) (h:ar (jQ nm l 0) 0=true):kP 215 [.str nm, .ls (l.map az)] (.tuple [iV 0, .bool false]):=by
  exact bo Tryz.func215<|Ke 4 (BT nm l hl)<|Kt 2 h<|Kf 1<|bq<|cj [iV 0,dB false]
theorem Ig (nm:aN) (l:List PDeed) (hl:l.length<2 ^ 40) (h:ar (jQ nm l 0) 0=false):kP 215 [.str nm, .ls (l.map az)] (.tuple [iV (gD l (jQ nm l 0).toNat).it.day, .bool true]):=by
  have g1:=aB h
  have g2:=(J9 nm l 0).1
  exact bo Tryz.func215<|Ke 4 (BT nm l hl)<|Kh 2 h<|Kl 1 13 (Aa (x:=jQ nm l 0) oA)<|Mx (aM az (by (simp only [oN,lM,lS] at *;omega):(jQ nm l 0).toNat<(l).length))<|Kf 4<|bq<|cj [iV (gD l (jQ nm l 0).toNat).it.day,dB true]
noncomputable def kL (s:PStart) (l:List PDeed):List PSpan:=match ae s.kind 1 with | true=>pa [] s.day | false=>match ae s.kind 3 with | true=>(match ar (jQ s.event l 0) 0 with | true=> [] | false=>pa [] (gD l (jQ s.event l 0).toNat).it.day) | false=> []
theorem L8 (s:PStart) (l:List PDeed) (hl:l.length<2 ^ 40) (hi:ar (jQ s.event l 0) 0=true):kP 117 [ao s, .ls (l.map az)] (.ls ((kL s l).map aJ)):=by
  have he:=Ie s.event l hl hi
  have e:kL s l=match ae s.kind 1 with | true=>pa [] s.day | false=> []:=(by unfold kL;rw [hi];cases ae s.kind 1 <;> cases ae s.kind 3 <;> rfl)
  rw [e]
  have rr0 b' (h:((match ae s.kind 1 with | true=>pa [] s.day | false=> []).map aJ)=b':=by generalize ae s.kind 1=p1 at *;(rw [h0]);try rfl):=h;exact bo Tryz.func117<|Kj 5 s.kind 1 (fun h0 _=>Kp 1 (Qz s.day)<|Kf 0<|cJ<|rr0<|(pa [] s.day).map aJ) fun h0 _=>Kj 1 s.kind 3 (fun _ _=>Kp 2 he<|Kf 7 (Le.lsn<|rr0 []:Le _ (af))) fun _ _=>Kf 0 (Le.lsn<|rr0 []:Le _ (af))
theorem L9 (s:PStart) (l:List PDeed) (hl:l.length<2 ^ 40) (hi:ar (jQ s.event l 0) 0=false):kP 117 [ao s, .ls (l.map az)] (.ls ((kL s l).map aJ)):=by
  have he:=Ig s.event l hl hi
  have e:kL s l=match ae s.kind 1 with | true=>pa [] s.day | false=>match ae s.kind 3 with | true=>pa [] (gD l (jQ s.event l 0).toNat).it.day | false=> []:=(by unfold kL;rw [hi])
  rw [e]
  have rr0 b' (h:((match ae s.kind 1 with | true=>pa [] s.day | false=>match ae s.kind 3 with | true=>pa [] (gD l (jQ s.event l 0).toNat).it.day | false=> []).map aJ)=b':=by generalize ae s.kind 1=p1 at *;generalize ae s.kind 3=p3 at *;(rw [h0]);(first | rw [h1] | skip);try rfl):=h;exact bo Tryz.func117<|Kj 5 s.kind 1 (fun h0 _=>Kp 1 (Qz s.day)<|Kf 0<|cJ<|rr0<|(pa [] s.day).map aJ) fun h0 _=>Kj 1 s.kind 3 (fun h1 _=>Kp 2 he<|Kp 7 (Qz (gD l (jQ s.event l 0).toNat).it.day)<|Kf 0<|cJ<|rr0<|(pa [] (gD l (jQ s.event l 0).toNat).it.day).map aJ) fun h1 _=>Kf 0 (Le.lsn<|rr0 []:Le _ (af))
theorem IY (s:PStart) (l:List PDeed) (hl:l.length<2 ^ 40):kP 117 [ao s, .ls (l.map az)] (.ls ((kL s l).map aJ)):=by
  cases hi:ar (jQ s.event l 0) 0
  · exact L9 s l hl hi
  · exact L8 s l hl hi
noncomputable def rH (d o:PDeed) (days:List PSpan):List PSpan:=match kf o.it.kind && qm o.it d.act d.item with | true=>(match rg o.it.kind with | true=>pa days o.it.day | false=>ow days o.it.day) | false=>days
noncomputable def lk (d:PDeed):List PDeed→List PSpan→List PSpan
  | [],days=>days
  | o::r,days=>lk d r (rH d o days)
noncomputable def dh (s:PStart) (d:PDeed) (l:List PDeed):List PSpan:=match ar d.it.kind 0 || ar 6 d.it.kind with | true=> [] | false=>lk d l (kL (effS s d.it.start) l)
theorem MZ (s:PStart) (l:List PDeed):(kL s l).length≤1048577:=by
  have h:=fun d=>(tH [] d).len
  unfold kL
  cases ae s.kind 1 <;> cases ae s.kind 3 <;> cases ar (jQ s.event l 0) 0 <;> simp only [lN] <;> first | exact h _ | omega
theorem mh (s:PStart) (d:PDeed) (l:List PDeed) (hl:l.length<2 ^ 40):kP 66 [ao s,az d, .ls (l.map az)] (.ls ((dh s d l).map aJ)):=by
  have hlk:=y7
  have hle1 : ∀ k,rg k=true→Le (.func (.func 214) [] []) (rj k):=fun k h=>NT h
  have hle2 : ∀ k,rg k=false→kf k=true→Le (.func (.func 216) [] []) (rj k):=fun k h h2=>RI h h2
  have hil:=MZ (effS s d.it.start) l
  have hin : ∀ b,(ar d.it.kind 0 || ar 6 d.it.kind)=b→dh s d l=match b with | true=> [] | false=>lk d l (kL (effS s d.it.start) l):=fun b h=>by unfold dh;rw [h]
  have hst : ∀ (o:PDeed) (r:List PDeed) (days:List PSpan),lk d (o::r) days=lk d r (rH d o days):=fun o r days=>rfl
  have rr0 b' (h:((dh s d l).map aJ)=b':=by first | (rw [hin true (by simp only [aS,ak,bS, *];try rfl)];rfl) | (rw [hin false (by simp only [aS,ak,bS, *];try rfl)];first | exact congrArg _ hj0.2 | exact congrArg _ hj0.2.symm | (rw [hj0.2];rfl))):=h;let q1:= [ay [iV d.act,iV d.item,iV d.day,iV d.it.kind,aW (d.it.at_.map ax),aW (d.it.to.map ax),iV d.it.where_,iV d.it.nth_,iV d.it.unit.act,iV d.it.unit.item,iV d.it.unit.n,iV d.it.unit.kind,aw d.it.unit.label,aW (d.it.unit.head.map aQ),aW (d.it.unit.words.map aQ),aW (d.it.unit.kids.map aK),aW (d.it.old.map mD),aW (d.it.new.map mD),aw d.it.label,aw d.it.for_,iV d.it.start.kind,iV d.it.start.day,aw d.it.start.event,iV d.it.act,iV d.it.item,iV d.it.day,aw d.it.event,aW (d.it.by_.map MH)]];let q2:= [ay [iV s.kind,iV s.day,aw s.event]];let q3:=bJ (bW 214) [] [];exact bo Tryz.func66<|Ka 7 d.it.kind 0 (fun a _=>Mt a<|Mt a<|Mt a<|MV a<|Kf 1 (Le.lsn<|rr0 []:Le _ (af))) fun a _=>Kh 0 a<|Kh 0 a<|Kh 0 a<|Kw 0 a<|Mb (ar 6 d.it.kind) (fun a=>have :=au a;Kf 0 (Le.lsn<|rr0 []:Le _ (af))) fun a=>have :=aB a;Kp 3 (Gl s d.it.start)<|Kp 0 (IY (effS s d.it.start) l hl)<|Kl 2 30 (ln az l)<|Mg 0<|Uk (0:Nat) l (kL (effS s d.it.start) l) [4,7,29,30,31] (fun a _ c=>([bK 1 0 0 0,aW<|c.map aJ,aW<|l.map az,nV l.length,nV a],[aZ 3 false 0 [ay [iV s.kind,iV s.day,aw s.event]],aZ 28 false 0 [ay [iV d.act,iV d.item,iV d.day,iV d.it.kind,aW<|d.it.at_.map ax,aW<|d.it.to.map ax,iV d.it.where_,iV d.it.nth_,iV d.it.unit.act,iV d.it.unit.item,iV d.it.unit.n,iV d.it.unit.kind,aw d.it.unit.label,aW<|d.it.unit.head.map aQ,aW<|d.it.unit.words.map aQ,aW<|d.it.unit.kids.map aK,aW<|d.it.old.map mD,aW<|d.it.new.map mD,aw d.it.label,aw d.it.for_,iV d.it.start.kind,iV d.it.start.day,aw d.it.start.event,iV d.it.act,iV d.it.item,iV d.it.day,aw d.it.event,aW<|d.it.by_.map MH]]])) (fun a c e=>(l).drop a=c∧e.length≤1048577∧lk d l (kL (effS s d.it.start) l)=lk d c e) (fun _ a _=>a.length) (et rfl<|by (exact ⟨hil,rfl⟩)) fun a c e f g=>Mc c (fun a=>have c:=gJ f.1 a;have hj0:=i7 (J:=fun a c=>c.length≤1048577∧lk d l (kL (effS s d.it.start) l)=lk d a c) (a:=e) a f.2;Kh 0 c<|Kf 1<|cJ<|rr0<|e.map aJ) fun c i j=>let m:=[ay [iV c.act,iV c.item,iV c.day,iV c.it.kind,aW<|c.it.at_.map ax,aW<|c.it.to.map ax,iV c.it.where_,iV c.it.nth_,iV c.it.unit.act,iV c.it.unit.item,iV c.it.unit.n,iV c.it.unit.kind,aw c.it.unit.label,aW<|c.it.unit.head.map aQ,aW<|c.it.unit.words.map aQ,aW<|c.it.unit.kids.map aK,aW<|c.it.old.map mD,aW<|c.it.new.map mD,aw c.it.label,aw c.it.for_,iV c.it.start.kind,iV c.it.start.day,aw c.it.start.event,iV c.it.act,iV c.it.item,iV c.it.day,aw c.it.event,aW<|c.it.by_.map MH]];have n:=gU f.1 j;have :=au n;have p:=gX (enc:=az) f.1 j;have hj0:=cD (J:=fun a c=>c.length≤1048577∧lk d l (kL (effS s d.it.start) l)=lk d a c) (a:=e) j f.2;Kt 0 n<|Mx p<|Mg 2<|M3 (.efx true (AV.map 3)<|aa [aZ 3 false 0 q2,aZ 28 false 0 q1,aZ 28 false 0 m,AObj.map [AEnt.mk (iV 7) q3 0,AEnt.mk (iV 9) q3 1,AEnt.mk (iV 8) (bJ (bW 216) [] []) 2] 3]) (j4 rt rt rt ti) (j4 (aY<|some<|aZ 28 false 0 m) (aY<|some<|aZ 28 false 0 q1) (aY<|some<|aZ 3 false 0 q2) ti) (RH s d c)<|K1 2 (.look<|cj [rj c.it.kind,dB<|kf c.it.kind]) (hlk c.it.kind)<|Kb 6 (kf c.it.kind) (fun m=>Kt 0 m<|Kt 0 m<|Kt 0 m<|Kt 0 m<|Kt 0 m<|Kt 0 m<|Mp (Lf c.it d.act d.item)<|MV m<|Mb (qm c.it d.act d.item) (fun _=>Ks 4 (rg c.it.kind) (fun m=>Ml 53 (hle1 c.it.kind m)<|Mp (Qq e c.it.day oA)<|Kl 1 59 (dg a)<|K1 0 (.frz 2 [4,7,29,30,31]) (bT rt rt ti)<|Mf<|g (a+1) i (pa e c.it.day) (et (bM f.1 j)<|by exact ⟨(tH _ _).len,by rw [hj0.2,hst];simp only [rH, *];rfl⟩)<|fw j) fun n=>Ml 53 (hle2 c.it.kind n m)<|Mp (Ed e c.it.day oA)<|Kl 1 59 (dg a)<|K1 0 (.frz 2 [4,7,29,30,31]) (bT rt rt ti)<|Mf<|g (a+1) i (ow e c.it.day) (et (bM f.1 j)<|by exact ⟨(rD _ _).len,by rw [hj0.2,hst];simp only [rH, *];rfl⟩)<|fw j) fun _=>Kl 0 59 (dg a)<|K1 0 (.frz 2 [4,7,29,30,31]) (bT rt rt ti)<|Mf<|g (a+1) i e (et (bM f.1 j)<|by exact ⟨hj0.1,by rw [hj0.2,hst];simp only [rH,aS,ak,bS, *];try rfl⟩)<|fw j) fun c=>Mh c<|Mh c<|Mh c<|Mh c<|Mh c<|Mh c<|My c<|Kl 1 59 (dg a)<|K1 0 (.frz 2 [4,7,29,30,31]) (bT rt rt ti)<|Mf<|g (a+1) i e (et (bM f.1 j)<|by exact ⟨hj0.1,by rw [hj0.2,hst];simp only [rH,aS,ak,bS, *];try rfl⟩)<|fw j
noncomputable abbrev ig (d:Int):AObj:= .row 1 false 0 [iV d]
noncomputable abbrev qQ:AObj:= .row 1 false 0 [.nils]
noncomputable abbrev pb (i ep n:Nat):AObj:= .row 1 false 0 [.slice i ep 0 n none]
noncomputable abbrev dV (m:List (Int × PStart)):AObj:= .map (bL ao m 0) m.length
noncomputable abbrev gg (d:PDeed):AObj:= .row 28 false 0 [az d]
noncomputable abbrev pv (ep:Nat) (l:List PDeed):AObj:= .row 28 true ep (l.map az)
def dr:PStart:=⟨0,0, []⟩
def c9 (m:List (Int × PStart)) (k:Int):PStart:=(gj k m).getD dr
theorem y8 (m:List (Int × PStart)) (k:Int):eD (some (.agg [iV 0,iV 0, .str []])) false (bj false 1 [(0,1)] (iV k) (bL ao m 0) 0)=some (ao (c9 m k)):=by
  rw [zQ]
  cases h:gj k m <;> simp only [c9,h,Option.getD] <;> rfl
theorem BU (m:List (Int × PStart)) (a:PAct):rJ (bL ao m 0) m.length (iV a.number) (.agg [iV a.start.kind,iV a.start.day, .str a.start.event]) (bj false 1 [(0,1)] (iV a.number) (bL ao m 0) 0)=some (bL ao (ky a.number a.start m) 0,(ky a.number a.start m).length):=Bq (f:=ao) a.number a.start m
/-- The starts of the acts by their numbers. -/
def xy (l:List PAct) (m:List (Int × PStart)):List (Int × PStart):=l.foldl (fun m a=>ky a.number a.start m) m
theorem FE (s:PStart) (d:PDeed) (l:List PDeed):NrmS (dh s d l):=by
  have h1 : ∀ (s:PStart),NrmS (kL s l):=fun s=>by
    unfold kL
    cases ae s.kind 1 <;> cases ae s.kind 3 <;> cases ar (jQ s.event l 0) 0 <;> first | exact xh | exact tH _ _
  have h2 : ∀ (r:List PDeed) (days:List PSpan),NrmS days→NrmS (lk d r days):=by
    intro r
    induction r with
    | nil=>intro days h;exact h
    | cons o r ih=>
      intro days h
      refine ih _ ?_
      unfold rH
      cases kf o.it.kind && qm o.it d.act d.item <;> cases rg o.it.kind <;> first | exact h | exact tH _ _ | exact rD _ _
  unfold dh
  cases ar d.it.kind 0 || ar 6 d.it.kind
  · exact h2 l _ (h1 _)
  · exact xh
theorem sj (s:PStart) (d:PDeed) (l:List PDeed) (day:Int):kP 41 [.ls ((dh s d l).map aJ),iV day] (.bool (iz (dh s d l) day)):=by
  have hn:=FE s d l
  have h:=GD (dh s d l) day (pZ hn.len (by decide))
  rwa [show iN (dh s d l)=dh s d l from (Sp hn).symm] at h
/-- Whether an amendment is told: its purpose, its days. -/
noncomputable def VN (p:aN) (d:PDeed):Bool:=dM d.it.for_ [] || dM d.it.for_ p
noncomputable def Br (day:Int) (p:aN) (m:List (Int × PStart)) (ds:List PDeed) (d:PDeed):Bool:=VN p d && iz (dh (c9 m d.act) d ds) day
noncomputable def re (day:Int) (p:aN) (m:List (Int × PStart)) (ds l:List PDeed):List PDeed:=l.filter fun d=>fh d.it.kind && Br day p m ds d
theorem Yk (d:PDeed) (ss:List PSpan) (day:Int) (p:aN) (m:List (Int × PStart)) (hc:kP 41 [.ls (ss.map aJ),iV day] (.bool false)):kD 40 [az d, .ls (ss.map aJ), .ptr 1 0 0 0, .ptr 0 0 0 0, .ptr 2 0 0 0] (aa [ig day,gi p,qQ,dV m,gg d]) (.tuple []) (aa [ig day,gi p,qQ,dV m,gg d]):=by
  exact fN Tryz.func40 fun a=>Kb 5 (dM d.it.for_ (ByteArray.mk #[]).data.toList) (fun b=>Mt b<|Mt b<|Mt b<|Mt b<|MV b<|Kp 2 hc<|K1 1 (.frz 5 []) (xu rt (tM m.length 5<|aF (f:=ao) (fun _=>rfl) m 0) rt rt rt ti)<|Mf a) fun b=>Kh 0 b<|Kh 0 b<|Kh 0 b<|Kh 0 b<|Kw 0 b<|Kb 0 (dM d.it.for_ p) (fun b=>Kt 0 b<|Kt 0 b<|Mp hc<|MV b<|K1 0 (.frz 5 []) (xu rt (tM m.length 5<|aF (f:=ao) (fun _=>rfl) m 0) rt rt rt ti)<|Mf a) fun b=>Mh b<|Mh b<|My b<|K1 0 (.frz 5 []) (xu rt (tM m.length 5<|aF (f:=ao) (fun _=>rfl) m 0) rt rt rt ti)<|Mf a
theorem Yj (d:PDeed) (ss:List PSpan) (day:Int) (p:aN) (m:List (Int × PStart)) (h1:dM d.it.for_ []=false) (h2:dM d.it.for_ p=false):kD 40 [az d, .ls (ss.map aJ), .ptr 1 0 0 0, .ptr 0 0 0 0, .ptr 2 0 0 0] (aa [ig day,gi p,qQ,dV m,gg d]) (.tuple []) (aa [ig day,gi p,qQ,dV m,gg d]):=by
  exact fN Tryz.func40 fun a=>Kh 5 h1<|Kh 0 h1<|Kh 0 h1<|Kh 0 h1<|Kh 0 h1<|Kw 0 h1<|Kh 0 h2<|Mh h2<|Mh h2<|My h2<|K1 0 (.frz 5 []) (xu rt (tM m.length 5<|aF (f:=ao) (fun _=>rfl) m 0) rt rt rt ti)<|Mf a
theorem Yx (d:PDeed) (ss:List PSpan) (day:Int) (p:aN) (m:List (Int × PStart)) (hc:kP 41 [.ls (ss.map aJ),iV day] (.bool true)) (h1:dM d.it.for_ []=true):kD 40 [az d, .ls (ss.map aJ), .ptr 1 0 0 0, .ptr 0 0 0 0, .ptr 2 0 0 0] (aa [ig day,gi p,qQ,dV m,gg d]) (.tuple []) (aa [ig day,gi p,pb 5 0 1,dV m,gg d,pv 0 [d]]):=by
  exact fN Tryz.func40 fun a=>Kt 5 h1<|Mt h1<|Mt h1<|Mt h1<|Mt h1<|MV h1<|Kp 2 hc<|K1 6 (.ren [0,1,2,3,4,6,5] [3] []) (tN m.length<|aF (f:=ao) (fun _=>rfl) m 0)<|M1 (.frz 6 []) (Kz rt rt (tM m.length 6<|aF (f:=ao) (fun _=>rfl) m 0) rt rt rt ti)<|Mf a
theorem Yz (d:PDeed) (ss:List PSpan) (day:Int) (p:aN) (m:List (Int × PStart)) (hc:kP 41 [.ls (ss.map aJ),iV day] (.bool true)) (h1:dM d.it.for_ []=false) (h2:dM d.it.for_ p=true):kD 40 [az d, .ls (ss.map aJ), .ptr 1 0 0 0, .ptr 0 0 0 0, .ptr 2 0 0 0] (aa [ig day,gi p,qQ,dV m,gg d]) (.tuple []) (aa [ig day,gi p,pb 5 0 1,dV m,gg d,pv 0 [d]]):=by
  exact fN Tryz.func40 fun a=>Kh 5 h1<|Kh 0 h1<|Kh 0 h1<|Kh 0 h1<|Kh 0 h1<|Kw 0 h1<|Kt 0 h2<|Kt 0 h2<|Kt 0 h2<|Mp hc<|MV h2<|K1 5 (.ren [0,1,2,3,4,6,5] [3] []) (tN m.length<|aF (f:=ao) (fun _=>rfl) m 0)<|M1 (.frz 6 []) (Kz rt rt (tM m.length 6<|aF (f:=ao) (fun _=>rfl) m 0) rt rt rt ti)<|Mf a
theorem Yq (d:PDeed) (ss:List PSpan) (day:Int) (p:aN) (m:List (Int × PStart)) (ep n:Nat) (out:List PDeed) (hc:kP 41 [.ls (ss.map aJ),iV day] (.bool false)):kD 40 [az d, .ls (ss.map aJ), .ptr 1 0 0 0, .ptr 0 0 0 0, .ptr 2 0 0 0] (aa [ig day,gi p,pb 4 ep n,dV m,pv ep out,gg d]) (.tuple []) (aa [ig day,gi p,pb 4 ep n,dV m,pv ep out,gg d]):=by
  exact fN Tryz.func40 fun a=>Kb 5 (dM d.it.for_ (ByteArray.mk #[]).data.toList) (fun b=>Mt b<|Mt b<|Mt b<|Mt b<|MV b<|Kp 2 hc<|K1 1 (.frz 6 []) (Kz rt (tR 28 true ep 6<|aX wt out) (tM m.length 6<|aF (f:=ao) (fun _=>rfl) m 0) rt rt rt ti)<|Mf a) fun b=>Kh 0 b<|Kh 0 b<|Kh 0 b<|Kh 0 b<|Kw 0 b<|Kb 0 (dM d.it.for_ p) (fun b=>Kt 0 b<|Kt 0 b<|Mp hc<|MV b<|K1 0 (.frz 6 []) (Kz rt (tR 28 true ep 6<|aX wt out) (tM m.length 6<|aF (f:=ao) (fun _=>rfl) m 0) rt rt rt ti)<|Mf a) fun b=>Mh b<|Mh b<|My b<|K1 0 (.frz 6 []) (Kz rt (tR 28 true ep 6<|aX wt out) (tM m.length 6<|aF (f:=ao) (fun _=>rfl) m 0) rt rt rt ti)<|Mf a
theorem YU (d:PDeed) (ss:List PSpan) (day:Int) (p:aN) (m:List (Int × PStart)) (ep n:Nat) (out:List PDeed) (h1:dM d.it.for_ []=false) (h2:dM d.it.for_ p=false):kD 40 [az d, .ls (ss.map aJ), .ptr 1 0 0 0, .ptr 0 0 0 0, .ptr 2 0 0 0] (aa [ig day,gi p,pb 4 ep n,dV m,pv ep out,gg d]) (.tuple []) (aa [ig day,gi p,pb 4 ep n,dV m,pv ep out,gg d]):=by
  exact fN Tryz.func40 fun a=>Kh 5 h1<|Kh 0 h1<|Kh 0 h1<|Kh 0 h1<|Kh 0 h1<|Kw 0 h1<|Kh 0 h2<|Mh h2<|Mh h2<|My h2<|K1 0 (.frz 6 []) (Kz rt (tR 28 true ep 6<|aX wt out) (tM m.length 6<|aF (f:=ao) (fun _=>rfl) m 0) rt rt rt ti)<|Mf a
theorem YY (d:PDeed) (ss:List PSpan) (day:Int) (p:aN) (m:List (Int × PStart)) (ep n:Nat) (out:List PDeed) (hn:n=out.length) (hn2:n<2 ^ 20) (hc:kP 41 [.ls (ss.map aJ),iV day] (.bool true)) (h1:dM d.it.for_ []=true):kD 40 [az d, .ls (ss.map aJ), .ptr 1 0 0 0, .ptr 0 0 0 0, .ptr 2 0 0 0] (aa [ig day,gi p,pb 4 ep n,dV m,pv ep out,gg d]) (.tuple []) (aa [ig day,gi p,pb 4 (ep+1) (n+1),dV m,pv (ep+1) (out++ [d]),gg d]):=by
  exact fN Tryz.func40 fun a=>Kt 5 h1<|Mt h1<|Mt h1<|Mt h1<|Mt h1<|MV h1<|Kp 2 hc<|K1 4 .app (bT (aY ep) (by (rw [lM];exact hn):n=(out.map az).length) (by exact cT (m:=2 ^ 21) (by omega) (by decide) (by decide):small (n+1) 392=true))<|M1 (.obj 4<|aZ 28 true (ep+1)<|(out++ [d]).map az) (congrArg (aZ 28 true<|ep+1)<|cN (f:=az) (l:=out) (ws:=[d]))<|K1 0 (.frz 6 []) (Kz rt (tR 28 true (ep+1) 6<|aX wt<|out++ [d]) (tM m.length 6<|aF (f:=ao) (fun _=>rfl) m 0) rt rt rt ti)<|Mf a
theorem YV (d:PDeed) (ss:List PSpan) (day:Int) (p:aN) (m:List (Int × PStart)) (ep n:Nat) (out:List PDeed) (hn:n=out.length) (hn2:n<2 ^ 20) (hc:kP 41 [.ls (ss.map aJ),iV day] (.bool true)) (h1:dM d.it.for_ []=false) (h2:dM d.it.for_ p=true):kD 40 [az d, .ls (ss.map aJ), .ptr 1 0 0 0, .ptr 0 0 0 0, .ptr 2 0 0 0] (aa [ig day,gi p,pb 4 ep n,dV m,pv ep out,gg d]) (.tuple []) (aa [ig day,gi p,pb 4 (ep+1) (n+1),dV m,pv (ep+1) (out++ [d]),gg d]):=by
  exact fN Tryz.func40 fun a=>Kh 5 h1<|Kh 0 h1<|Kh 0 h1<|Kh 0 h1<|Kh 0 h1<|Kw 0 h1<|Kt 0 h2<|Kt 0 h2<|Kt 0 h2<|Mp hc<|MV h2<|K1 3 .app (bT (aY ep) (by (rw [lM];exact hn):n=(out.map az).length) (by exact cT (m:=2 ^ 21) (by omega) (by decide) (by decide):small (n+1) 392=true))<|M1 (.obj 4<|aZ 28 true (ep+1)<|(out++ [d]).map az) (congrArg (aZ 28 true<|ep+1)<|cN (f:=az) (l:=out) (ws:=[d]))<|K1 0 (.frz 6 []) (Kz rt (tR 28 true (ep+1) 6<|aX wt<|out++ [d]) (tM m.length 6<|aF (f:=ao) (fun _=>rfl) m 0) rt rt rt ti)<|Mf a
theorem Uf {day:Int} {p:aN} {m:List (Int × PStart)} {ds:List PDeed} {d:PDeed} (h:Br day p m ds d=false):kP 41 [.ls ((dh (c9 m d.act) d ds).map aJ),iV day] (.bool false)∨(dM d.it.for_ []=false∧dM d.it.for_ p=false):=by
  unfold Br VN at h
  have hz:=sj (c9 m d.act) d ds day
  cases q:iz (dh (c9 m d.act) d ds) day with
  | false=>rw [q] at hz;exact .inl hz
  | true=>rw [q,Bool.and_true,A7] at h;exact .inr h
theorem OI {day:Int} {p:aN} {m:List (Int × PStart)} {ds:List PDeed} {d:PDeed} (h:Br day p m ds d=true):kP 41 [.ls ((dh (c9 m d.act) d ds).map aJ),iV day] (.bool true)∧(dM d.it.for_ []=true∨(dM d.it.for_ []=false∧dM d.it.for_ p=true)):=by
  unfold Br VN at h
  obtain ⟨h1,h2⟩:=ph.1 h
  have hz:=sj (c9 m d.act) d ds day
  rw [h2] at hz
  refine ⟨hz,?_⟩
  cases q:dM d.it.for_ [] with
  | true=>exact .inl rfl
  | false=>rw [q,Bool.false_or] at h1;exact .inr ⟨rfl,h1⟩
theorem XU (day:Int) (p:aN) (m:List (Int × PStart)) (ds:List PDeed) (d:PDeed) (hb:Br day p m ds d=false):kD 40 [az d, .ls ((dh (c9 m d.act) d ds).map aJ), .ptr 1 0 0 0, .ptr 0 0 0 0, .ptr 2 0 0 0] (aa [ig day,gi p,qQ,dV m,gg d]) (.tuple []) (aa [ig day,gi p,qQ,dV m,gg d]):=by
  rcases Uf hb with h | ⟨h1,h2⟩
  · exact Yk d _ day p m h
  · exact Yj d _ day p m h1 h2
theorem Ya (day:Int) (p:aN) (m:List (Int × PStart)) (ds:List PDeed) (d:PDeed) (hb:By (Br day p m ds d) false):kD 40 [az d, .ls ((dh (c9 m d.act) d ds).map aJ), .ptr 1 0 0 0, .ptr 0 0 0 0, .ptr 2 0 0 0] (aa [ig day,gi p,qQ,dV m,gg d]) (.tuple []) (aa [ig day,gi p,qQ,dV m,gg d]):=XU day p m ds d hb
theorem Yy (day:Int) (p:aN) (m:List (Int × PStart)) (ds:List PDeed) (d:PDeed) (hb:By (Br day p m ds d) true):kD 40 [az d, .ls ((dh (c9 m d.act) d ds).map aJ), .ptr 1 0 0 0, .ptr 0 0 0 0, .ptr 2 0 0 0] (aa [ig day,gi p,qQ,dV m,gg d]) (.tuple []) (aa [ig day,gi p,pb 5 0 1,dV m,gg d,pv 0 [d]]):=by
  obtain ⟨h,h1 | ⟨h1,h2⟩⟩:=OI hb
  · exact Yx d _ day p m h h1
  · exact Yz d _ day p m h h1 h2
theorem Yv (day:Int) (p:aN) (m:List (Int × PStart)) (ds:List PDeed) (d:PDeed) (ep n:Nat) (out:List PDeed) (hb:By (Br day p m ds d) false):kD 40 [az d, .ls ((dh (c9 m d.act) d ds).map aJ), .ptr 1 0 0 0, .ptr 0 0 0 0, .ptr 2 0 0 0] (aa [ig day,gi p,pb 4 ep n,dV m,pv ep out,gg d]) (.tuple []) (aa [ig day,gi p,pb 4 ep n,dV m,pv ep out,gg d]):=by
  rcases Uf hb with h | ⟨h1,h2⟩
  · exact Yq d _ day p m ep n out h
  · exact YU d _ day p m ep n out h1 h2
theorem Yw (day:Int) (p:aN) (m:List (Int × PStart)) (ds:List PDeed) (d:PDeed) (ep n:Nat) (out:List PDeed) (hb:By (Br day p m ds d) true) (hn:n=out.length) (hn2:n<2 ^ 20):kD 40 [az d, .ls ((dh (c9 m d.act) d ds).map aJ), .ptr 1 0 0 0, .ptr 0 0 0 0, .ptr 2 0 0 0] (aa [ig day,gi p,pb 4 ep n,dV m,pv ep out,gg d]) (.tuple []) (aa [ig day,gi p,pb 4 (ep+1) (n+1),dV m,pv (ep+1) (out++ [d]),gg d]):=by
  obtain ⟨h,h1 | ⟨h1,h2⟩⟩:=OI hb
  · exact YY d _ day p m ep n out hn hn2 h h1
  · exact YV d _ day p m ep n out hn hn2 h h1 h2
theorem ON {day:Int} {p:aN} {m:List (Int × PStart)} {ds r:List PDeed} {d:PDeed} (h:fh d.it.kind=false):re day p m ds (d::r)=re day p m ds r:=by simp only [re,List.filter_cons,h,Bool.false_and];rfl
theorem OM {day:Int} {p:aN} {m:List (Int × PStart)} {ds r:List PDeed} {d:PDeed} (h:Br day p m ds d=false):re day p m ds (d::r)=re day p m ds r:=by simp only [re,List.filter_cons,h,xI];rfl
theorem OL {day:Int} {p:aN} {m:List (Int × PStart)} {ds r:List PDeed} {d:PDeed} (h:fh d.it.kind=true) (h2:Br day p m ds d=true):re day p m ds (d::r)=d::re day p m ds r:=by simp only [re,List.filter_cons,h,h2];rfl
structure OnA (day:Int) (p:aN) (m:List (Int × PStart)) (ds r:List PDeed):Prop where
  f:re day p m ds ds=re day p m ds r
structure OnR (day:Int) (p:aN) (m:List (Int × PStart)) (ds r:List PDeed) (ep n:Nat) (out:List PDeed):Prop where
  len:n=out.length
  ep:ep+1=out.length
  small:out.length+r.length≤ds.length
  f:re day p m ds ds=out++re day p m ds r
theorem OnA.no {day:Int} {p:aN} {m:List (Int × PStart)} {ds r:List PDeed} {d:PDeed} (h:OnA day p m ds (d::r)) (ha:fh d.it.kind=false):OnA day p m ds r:=⟨by rw [h.f,ON ha]⟩
theorem OnA.nil {day:Int} {p:aN} {m:List (Int × PStart)} {ds r:List PDeed} {d:PDeed} (h:OnA day p m ds (d::r)) (hb:Br day p m ds d=false):OnA day p m ds r:=⟨by rw [h.f,OM hb]⟩
theorem OnA.new {day:Int} {p:aN} {m:List (Int × PStart)} {ds r:List PDeed} {d:PDeed} {n:Nat} (h:OnA day p m ds (d::r)) (hl:(d::r).length≤ds.length) (ha:fh d.it.kind=true) (hb:Br day p m ds d=true) (hn:n=1):OnR day p m ds r 0 n [d]:=⟨hn,rfl,by simp only [lC,lN] at *;omega,by rw [h.f,OL ha hb];rfl⟩
theorem OnR.no {day:Int} {p:aN} {m:List (Int × PStart)} {ds r:List PDeed} {d:PDeed} {ep n:Nat} {out:List PDeed} (h:OnR day p m ds (d::r) ep n out) (ha:fh d.it.kind=false):OnR day p m ds r ep n out:=⟨h.len,h.ep,by have:=h.small;simp only [lC] at this;omega,by rw [h.f,ON ha]⟩
theorem OnR.nil {day:Int} {p:aN} {m:List (Int × PStart)} {ds r:List PDeed} {d:PDeed} {ep n:Nat} {out:List PDeed} (h:OnR day p m ds (d::r) ep n out) (hb:Br day p m ds d=false):OnR day p m ds r ep n out:=⟨h.len,h.ep,by have:=h.small;simp only [lC] at this;omega,by rw [h.f,OM hb]⟩
theorem OnR.new {day:Int} {p:aN} {m:List (Int × PStart)} {ds r:List PDeed} {d:PDeed} {ep n k:Nat} {out:List PDeed} (h:OnR day p m ds (d::r) ep n out) (ha:fh d.it.kind=true) (hb:Br day p m ds d=true) (hk:k=n+1):OnR day p m ds r (ep+1) k (out++ [d]):=by
  have:=h.len;have:=h.ep;have:=h.small
  refine ⟨?_,?_,?_,by rw [h.f,OL ha hb,kE];rfl⟩ <;> simp only [lA,lC,lN] at * <;> omega
theorem OnR.done {day:Int} {p:aN} {m:List (Int × PStart)} {ds:List PDeed} {ep n:Nat} {out:List PDeed} (h:OnR day p m ds [] ep n out):ep=(re day p m ds ds).length - 1∧n=(re day p m ds ds).length∧out=re day p m ds ds:=by
  have e:re day p m ds ds=out:=by rw [h.f];exact eX _
  have:=h.len;have:=h.ep
  rw [e];exact ⟨by omega,by omega,rfl⟩
theorem U7 {α:Type} {l r:List α} {j:Nat} {a:α} (h:l.drop j=a::r):(a::r).length≤l.length:=by rw [← h,jC];omega
theorem Ug {day:Int} {p:aN} {m:List (Int × PStart)} {ds r:List PDeed} {d:PDeed} (h:re day p m ds (d::r) = []) (ha:fh d.it.kind=true):Br day p m ds d=false:=by
  cases q:Br day p m ds d with
  | false=>rfl
  | true=>rw [OL ha q] at h;cases h
theorem WX (gs:List PGaz) (L:List PAct) (ds:List PDeed) (day:Int) (p:aN) (hL:L.length<10000) (hd:ds.length<100000) (ha:kP 63 [.ls (gs.map aU)] (.ls (L.map aj))) (hi:kP 64 [.ls (gs.map aU)] (.ls (ds.map az))) (hE:re day p (xy L []) ds ds = []) :
    kD 39 [.ls (gs.map aU), .func (.func 40) [] [.ptr 1 0 0 0, .ptr 0 0 0 0, .ptr 2 0 0 0]] (aa [ig day,gi p,qQ]) (.tuple []) (aa [ig day,gi p,qQ]):=by
  have hlk:=y8
  have hup:=BU
  let q1:= [iV day];exact fN Tryz.func39 fun a=>Kp 2 ha<|Kl 0 13 (ln aj L)<|Mg 0<|Nl aj L ([]:List (Int × PStart)) [0,1,4,12,13,14] (fun a _ b=>([aW<|gs.map aU,bJ (bW 40) [] [bK 1 0 0 0,bK 0 0 0 0,bK 2 0 0 0],AV.map 3,aW<|L.map aj,nV L.length,nV a],[aZ 1 false 0 [iV day],aZ 1 false 0 [aw p],aZ 1 false 0 [af],AObj.map (bL ao b 0) b.length])) (fun a b=>xy L []=xy a b) (by rfl) (fun _ _ b _ _ _ c d=>Kh 0 c<|Kp 0 hi<|Kl 2 27 (ln az ds)<|Mg 0<|Uk (0:Nat) ds () [1,4,7,26,27,28] (fun a _ _=>([bJ (bW 40) [] [bK 1 0 0 0,bK 0 0 0 0,bK 2 0 0 0],AV.map 3,aW<|ds.map az,aW<|ds.map az,nV ds.length,nV a],[aZ 1 false 0 [iV day],aZ 1 false 0 [aw p],aZ 1 false 0 [af],AObj.map (bL ao b 0) b.length])) (fun a c _=>(ds).drop a=c∧re day p b ds c= []) (fun _ a _=>a.length) (et rfl<|by (rw [← show xy L []=b from d];exact hE)) fun c d e f g=>Mc d (fun c=>have d:=gJ f.1 c;have :=i7 (J:=fun a _=>re day p b ds a= []) (a:=e) c f.2;Kh 0 d<|M1 (.frz 3 []) (j4 rt rt rt ti)<|Mf a) fun a d h=>let i:=[ay [iV a.act,iV a.item,iV a.day,iV a.it.kind,aW<|a.it.at_.map ax,aW<|a.it.to.map ax,iV a.it.where_,iV a.it.nth_,iV a.it.unit.act,iV a.it.unit.item,iV a.it.unit.n,iV a.it.unit.kind,aw a.it.unit.label,aW<|a.it.unit.head.map aQ,aW<|a.it.unit.words.map aQ,aW<|a.it.unit.kids.map aK,aW<|a.it.old.map mD,aW<|a.it.new.map mD,aw a.it.label,aw a.it.for_,iV a.it.start.kind,iV a.it.start.day,aw a.it.start.event,iV a.it.act,iV a.it.item,iV a.it.day,aw a.it.event,aW<|a.it.by_.map MH]];have j:=gU f.1 h;have :=au j;have k:=gX (enc:=az) f.1 h;have e:=cD (J:=fun a _=>re day p b ds a= []) (a:=e) h f.2;Kt 0 j<|Mx k<|Kp 5 (mH a.it.kind)<|Mb (fh a.it.kind) (fun _=>K1 4 (.look<|ay [iV (c9 b a.act).kind,iV (c9 b a.act).day,aw (c9 b a.act).event]) (hlk b a.act)<|Kp 1 (mh (c9 b a.act) a ds<|by (omega))<|M3 (.efx true (cj [])<|aa [aZ 1 false 0 q1,aZ 1 false 0 [aw p],aZ 1 false 0 [af],AObj.map (bL ao b 0) b.length,aZ 28 false 0 i]) (xu rt (tM b.length 5<|aF (f:=ao) (fun _=>rfl) b 0) rt rt rt ti) (xu (aY<|some<|aZ 28 false 0 i) (aY<|some<|AObj.map (bL ao b 0) b.length) (aY<|some<|aZ 1 false 0 [af]) (aY<|some<|aZ 1 false 0 [aw p]) (aY<|some<|aZ 1 false 0 q1) ti) (XU day p b ds a<|by exact Ug e (by assumption))<|Kl 0 46 (dg c)<|K1 0 (.frz 4 [1,4,7,26,27,28]) (HY (tM b.length 4<|aF (f:=ao) (fun _=>rfl) b 0) rt rt rt ti)<|Mf<|g (c+1) d () (et (bM f.1 h)<|by (have z:=e;rw [OM (Ug z (by assumption))] at z;exact z))<|fw h) fun _=>Kl 0 46 (dg c)<|K1 0 (.frz 4 [1,4,7,26,27,28]) (HY (tM b.length 4<|aF (f:=ao) (fun _=>rfl) b 0) rt rt rt ti)<|Mf<|g (c+1) d () (et (bM f.1 h)<|by (have z:=e;rw [ON (by assumption)] at z;exact z))<|fw h) fun a _ b _ _ c d e _ f _ g h=>Kt 0 f<|Mx g<|K1 7 (.upd (bL ao (ky c.number c.start b) 0) (ky c.number c.start b).length) (hup b c)<|Kl 0 23 (dg a)<|K1 0 (.frz 4 [0,1,4,12,13,14]) (HY (tM (ky c.number c.start b).length 4<|aF (f:=ao) (fun _=>rfl) (ky c.number c.start b) 0) rt rt rt ti)<|Mf<|e (ky c.number c.start b)<|by exact h
def GN (gs:List PGaz) (L:List PAct) (day:Int) (p:aN) (x0:Nat × List PAct × List (Int × PStart)):Prop:=(L).drop x0.1=x0.2.1∧xy L []=xy x0.2.1 x0.2.2
noncomputable def wE (gs:List PGaz) (L:List PAct) (day:Int) (p:aN) (x0:Nat × List PAct × List (Int × PStart)):List AV × List AObj:=([AV.ls (gs.map aU),AV.func (Fn.func 40) [] [AV.ptr 1 0 0 0,AV.ptr 0 0 0 0,AV.ptr 2 0 0 0],AV.map 3,AV.ls (L.map aj),nV L.length,nV x0.1], [AObj.row 1 false 0 [iV day],AObj.row 1 false 0 [AV.str p],AObj.row 1 false 0 [AV.nils],AObj.map (bL ao x0.2.2 0) x0.2.2.length])
def GM (ds:List PDeed) (day:Int) (p:aN) (x0:Nat × List PAct × List (Int × PStart)) (x1:Nat × List PDeed × Unit):Prop:=(ds).drop x1.1=x1.2.1∧OnA day p x0.2.2 ds x1.2.1
noncomputable def wD (ds:List PDeed) (day:Int) (p:aN) (x0:Nat × List PAct × List (Int × PStart)) (x1:Nat × List PDeed × Unit):List AV × List AObj:=([AV.func (Fn.func 40) [] [AV.ptr 1 0 0 0,AV.ptr 0 0 0 0,AV.ptr 2 0 0 0],AV.map 3,AV.ls (ds.map az),AV.ls (ds.map az),nV ds.length,nV x1.1], [AObj.row 1 false 0 [iV day],AObj.row 1 false 0 [AV.str p],AObj.row 1 false 0 [AV.nils],AObj.map (bL ao x0.2.2 0) x0.2.2.length])
def GL (ds:List PDeed) (day:Int) (p:aN) (x0:Nat × List PAct × List (Int × PStart)) (x1:Nat × List PDeed × Nat × Nat × List PDeed):Prop:=(ds).drop x1.1=x1.2.1∧OnR day p x0.2.2 ds x1.2.1 x1.2.2.1 x1.2.2.2.1 x1.2.2.2.2
noncomputable def GI (ds:List PDeed) (day:Int) (p:aN) (x0:Nat × List PAct × List (Int × PStart)) (x1:Nat × List PDeed × Nat × Nat × List PDeed):List AV × List AObj:=([AV.func (Fn.func 40) [] [AV.ptr 1 0 0 0,AV.ptr 0 0 0 0,AV.ptr 2 0 0 0],AV.map 3,AV.ls (ds.map az),AV.ls (ds.map az),nV ds.length,nV x1.1], [AObj.row 1 false 0 [iV day],AObj.row 1 false 0 [AV.str p],AObj.row 1 false 0 [AV.slice 4 x1.2.2.1 0 x1.2.2.2.1 none],AObj.map (bL ao x0.2.2 0) x0.2.2.length,AObj.row 28 true x1.2.2.1 (x1.2.2.2.2.map az)])
theorem WZ (gs:List PGaz) (L:List PAct) (ds:List PDeed) (day:Int) (p:aN) (hL:L.length<10000) (hd:ds.length<100000) (ha:kP 63 [.ls (gs.map aU)] (.ls (L.map aj))) (hi:kP 64 [.ls (gs.map aU)] (.ls (ds.map az))) (hE:re day p (xy L []) ds ds≠ []) :
    kD 39 [.ls (gs.map aU), .func (.func 40) [] [.ptr 1 0 0 0, .ptr 0 0 0 0, .ptr 2 0 0 0]] (aa [ig day,gi p,qQ]) (.tuple []) (aa [ig day,gi p,pb 3 ((re day p (xy L []) ds ds).length - 1) (re day p (xy L []) ds ds).length,pv ((re day p (xy L []) ds ds).length - 1) (re day p (xy L []) ds ds)]):=by
  have hlk:=y8
  have hup:=BU
  let q5:= [iV day];let q8:=cj [];let q10:=some (aZ 1 false 0 [aw p]);let q11:=some (aZ 1 false 0 q5);exact Rp Tryz.func39<|Kp 2 ha<|Kl 0 13 (ln aj L)<|Mg 0<|ML (Nat × List PAct × List (Int × PStart)) [0,1,4,12,13,14] (wE gs L day p) (GN gs L day p) (fun a=>a.2.1.length) (0,L,[]) (aY<|wE gs L day p (0,L,[])) (et (rfl:List.drop 0 (L)=L) (by rfl:(xy L []=xy L []))) fun a b c=>let d:=some<|AObj.map (bL ao a.2.2 0) a.2.2.length;Mi (fun a b=>xy L []=xy a b) aj b (fun _ b c=>Kh 0 b<|Kp 0 hi<|Kl 2 27 (ln az ds)<|Mg 0<|MM (Nat × List PDeed × Unit) (Nat × List PDeed × Nat × Nat × List PDeed) [1,4,7,26,27,28] (wD ds day p a) (GI ds day p a) (GM ds day p a) (GL ds day p a) (fun a=>a.2.1.length) (fun a=>a.2.1.length) (.inl (0,ds,())) (aY<|wD ds day p a (0,ds,())) (et (rfl:List.drop 0 (ds)=ds) (by (exact ⟨rfl⟩):(OnA day p a.2.2 ds ds))) (fun b e f=>Mc b.2.1 (fun d=>have f:=gJ e.1 d;have b:=i7 (J:=fun b _=>OnA day p a.2.2 ds b) (a:=b.2.2) d e.2;Kh 0 f<|Mw .abs (by exact hE (by rw [show xy L []=a.2.2 from c];exact b.f):False)) fun c g h=>let i:=[ay [iV c.act,iV c.item,iV c.day,iV c.it.kind,aW<|c.it.at_.map ax,aW<|c.it.to.map ax,iV c.it.where_,iV c.it.nth_,iV c.it.unit.act,iV c.it.unit.item,iV c.it.unit.n,iV c.it.unit.kind,aw c.it.unit.label,aW<|c.it.unit.head.map aQ,aW<|c.it.unit.words.map aQ,aW<|c.it.unit.kids.map aK,aW<|c.it.old.map mD,aW<|c.it.new.map mD,aw c.it.label,aw c.it.for_,iV c.it.start.kind,iV c.it.start.day,aw c.it.start.event,iV c.it.act,iV c.it.item,iV c.it.day,aw c.it.event,aW<|c.it.by_.map MH]];let j:=ay [iV (c9 a.2.2 c.act).kind,iV (c9 a.2.2 c.act).day,aw (c9 a.2.2 c.act).event];have k:=gU e.1 h;have :=au k;have l:=gX (enc:=az) e.1 h;have m:=cD (J:=fun b _=>OnA day p a.2.2 ds b) (a:=b.2.2) h e.2;Kt 0 k<|Mx l<|Kp 5 (mH c.it.kind)<|Mb (fh c.it.kind) (fun _=>Ms (Br day p a.2.2 ds c) (fun d=>K1 4 (.look j) (hlk a.2.2 c.act)<|Kp 1 (mh (c9 a.2.2 c.act) c ds<|by (omega))<|M3 (.efx false q8<|aa [aZ 1 false 0 q5,aZ 1 false 0 [aw p],aZ 1 false 0 [aD 5 0 0 1 none],AObj.map (bL ao a.2.2 0) a.2.2.length,aZ 28 false 0 i,aZ 28 true 0 i]) (xu rt (tM a.2.2.length 5<|aF (f:=ao) (fun _=>rfl) a.2.2 0) rt rt rt ti) ti (Yy day p a.2.2 ds c d)<|Kl 0 46 (dg b.1)<|K1 0 (.ren [0,1,2,3,5,4] [3] [1,4,7,26,27,28]) (tN a.2.2.length<|aF (f:=ao) (fun _=>rfl) a.2.2 0)<|M1 (.frz 5 [1,4,7,26,27,28]) (xu rt (tM a.2.2.length 5<|aF (f:=ao) (fun _=>rfl) a.2.2 0) rt rt rt ti)<|Mf<|f (.inr (b.1+1,g,(0,1,[c]))) (et (bM e.1 h) (by exact m.new (U7 (e.1.trans h)) (by assumption) (by assumption) rfl:(OnR day p a.2.2 ds g (0:Nat) (1:Nat) [c])))<|fw h) fun k=>K1 4 (.look j) (hlk a.2.2 c.act)<|Kp 1 (mh (c9 a.2.2 c.act) c ds<|by (omega))<|M3 (.efx true q8<|aa [aZ 1 false 0 q5,aZ 1 false 0 [aw p],aZ 1 false 0 [af],AObj.map (bL ao a.2.2 0) a.2.2.length,aZ 28 false 0 i]) (xu rt (tM a.2.2.length 5<|aF (f:=ao) (fun _=>rfl) a.2.2 0) rt rt rt ti) (xu (aY<|some<|aZ 28 false 0 i) (aY d) (aY<|some<|aZ 1 false 0 [af]) (aY q10) (aY q11) ti) (Ya day p a.2.2 ds c k)<|Kl 0 46 (dg b.1)<|K1 0 (.frz 4 [1,4,7,26,27,28]) (HY (tM a.2.2.length 4<|aF (f:=ao) (fun _=>rfl) a.2.2 0) rt rt rt ti)<|Mf<|f (.inl (b.1+1,g,())) (et (bM e.1 h) (by exact m.nil (by assumption):(OnA day p a.2.2 ds g)))<|fw h) fun _=>Kl 0 46 (dg b.1)<|K1 0 (.frz 4 [1,4,7,26,27,28]) (HY (tM a.2.2.length 4<|aF (f:=ao) (fun _=>rfl) a.2.2 0) rt rt rt ti)<|Mf<|f (.inl (b.1+1,g,())) (et (bM e.1 h) (by exact m.no (by assumption):(OnA day p a.2.2 ds g)))<|fw h) fun b e f=>let g:=[aD 4 b.2.2.1 0 b.2.2.2.1 none];let h:=List.map az b.2.2.2.2;Mc b.2.1 (fun d=>have f:=gJ e.1 d;have d:=i7 (J:=fun b c=>OnR day p a.2.2 ds b c.1 c.2.1 c.2.2) (a:=b.2.2) d e.2;Kh 0 f<|M2 (.ren [0,1,2,4,3] [4,3] []) (tS 28 true b.2.2.1<|aX wt b.2.2.2.2) (tN a.2.2.length<|aF (f:=ao) (fun _=>rfl) a.2.2 0)<|M1 (.frz 4 []) (HY (tR 28 true b.2.2.1 4<|aX wt b.2.2.2.2) rt rt rt ti)<|Mf<|et (aY q8) (by (have q:=d.done;rw [show xy L []=a.2.2 from c,q.1,q.2.1,q.2.2]):(aa [AObj.row 1 false 0 [iV day],AObj.row 1 false 0 [AV.str p],AObj.row 1 false 0 [AV.slice 3 b.2.2.1 0 b.2.2.2.1 none],AObj.row 28 true b.2.2.1 (b.2.2.2.2.map az)])=(aa [ig day,gi p,pb 3 ((re day p (xy L []) ds ds).length - 1) (re day p (xy L []) ds ds).length,pv ((re day p (xy L []) ds ds).length - 1) (re day p (xy L []) ds ds)]))) fun c i j=>let k:=[ay [iV c.act,iV c.item,iV c.day,iV c.it.kind,aW<|c.it.at_.map ax,aW<|c.it.to.map ax,iV c.it.where_,iV c.it.nth_,iV c.it.unit.act,iV c.it.unit.item,iV c.it.unit.n,iV c.it.unit.kind,aw c.it.unit.label,aW<|c.it.unit.head.map aQ,aW<|c.it.unit.words.map aQ,aW<|c.it.unit.kids.map aK,aW<|c.it.old.map mD,aW<|c.it.new.map mD,aw c.it.label,aw c.it.for_,iV c.it.start.kind,iV c.it.start.day,aw c.it.start.event,iV c.it.act,iV c.it.item,iV c.it.day,aw c.it.event,aW<|c.it.by_.map MH]];let l:=ay [iV (c9 a.2.2 c.act).kind,iV (c9 a.2.2 c.act).day,aw (c9 a.2.2 c.act).event];have m:=gU e.1 j;have :=au m;have n:=gX (enc:=az) e.1 j;have o:=cD (J:=fun b c=>OnR day p a.2.2 ds b c.1 c.2.1 c.2.2) (a:=b.2.2) j e.2;Kt 0 m<|Mx n<|Kp 5 (mH c.it.kind)<|Mb (fh c.it.kind) (fun _=>Ms (Br day p a.2.2 ds c) (fun d=>K1 4 (.look l) (hlk a.2.2 c.act)<|Kp 1 (mh (c9 a.2.2 c.act) c ds<|by (omega))<|M3 (.efx false q8<|aa [aZ 1 false 0 q5,aZ 1 false 0 [aw p],aZ 1 false 0 [aD 4 (b.2.2.1+1) 0 (b.2.2.2.1+1) none],AObj.map (bL ao a.2.2 0) a.2.2.length,aZ 28 true (b.2.2.1+1)<|(b.2.2.2.2++ [c]).map az,aZ 28 false 0 k]) (Kz rt (tR 28 true b.2.2.1 6<|aX wt b.2.2.2.2) (tM a.2.2.length 6<|aF (f:=ao) (fun _=>rfl) a.2.2 0) rt rt rt ti) ti (Yw day p a.2.2 ds c b.2.2.1 b.2.2.2.1 b.2.2.2.2 d (by exact o.len)<|by (have z:=o.small;have z2:=o.len;simp only [lC] at z;omega))<|Kl 0 46 (dg b.1)<|K1 0 (.frz 5 [1,4,7,26,27,28]) (xu (tR 28 true (b.2.2.1+1) 5<|aX wt<|b.2.2.2.2++ [c]) (tM a.2.2.length 5<|aF (f:=ao) (fun _=>rfl) a.2.2 0) rt rt rt ti)<|Mf<|f (.inr (b.1+1,i,(b.2.2.1+1,b.2.2.2.1+1,b.2.2.2.2++ [c]))) (et (bM e.1 j) (by exact o.new (by assumption) (by assumption) rfl:(OnR day p a.2.2 ds i (b.2.2.1+1) (b.2.2.2.1+1) (b.2.2.2.2++ [c]))))<|fw j) fun m=>K1 4 (.look l) (hlk a.2.2 c.act)<|Kp 1 (mh (c9 a.2.2 c.act) c ds<|by (omega))<|M3 (.efx true q8<|aa [aZ 1 false 0 q5,aZ 1 false 0 [aw p],aZ 1 false 0 g,AObj.map (bL ao a.2.2 0) a.2.2.length,aZ 28 true b.2.2.1 h,aZ 28 false 0 k]) (Kz rt (tR 28 true b.2.2.1 6<|aX wt b.2.2.2.2) (tM a.2.2.length 6<|aF (f:=ao) (fun _=>rfl) a.2.2 0) rt rt rt ti) (Kz (aY<|some<|aZ 28 false 0 k) (aY<|some<|aZ 28 true b.2.2.1 h) (aY d) (aY<|some<|aZ 1 false 0 g) (aY q10) (aY q11) ti) (Yv day p a.2.2 ds c b.2.2.1 b.2.2.2.1 b.2.2.2.2 m)<|Kl 0 46 (dg b.1)<|K1 0 (.frz 5 [1,4,7,26,27,28]) (xu (tR 28 true b.2.2.1 5<|aX wt b.2.2.2.2) (tM a.2.2.length 5<|aF (f:=ao) (fun _=>rfl) a.2.2 0) rt rt rt ti)<|Mf<|f (.inr (b.1+1,i,(b.2.2.1,b.2.2.2.1,b.2.2.2.2))) (et (bM e.1 j) (by exact o.nil (by assumption):(OnR day p a.2.2 ds i b.2.2.1 b.2.2.2.1 b.2.2.2.2)))<|fw j) fun _=>Kl 0 46 (dg b.1)<|K1 0 (.frz 5 [1,4,7,26,27,28]) (xu (tR 28 true b.2.2.1 5<|aX wt b.2.2.2.2) (tM a.2.2.length 5<|aF (f:=ao) (fun _=>rfl) a.2.2 0) rt rt rt ti)<|Mf<|f (.inr (b.1+1,i,(b.2.2.1,b.2.2.2.1,b.2.2.2.2))) (et (bM e.1 j) (by exact o.no (by assumption):(OnR day p a.2.2 ds i b.2.2.1 b.2.2.2.1 b.2.2.2.2)))<|fw j) fun d e f g _ h i=>Kt 0 g<|Mx h<|K1 7 (.upd (bL ao (ky d.number d.start a.2.2) 0) (ky d.number d.start a.2.2).length) (hup a.2.2 d)<|Kl 0 23 (dg a.1)<|K1 0 (.frz 4 [0,1,4,12,13,14]) (HY (tM (ky d.number d.start a.2.2).length 4<|aF (f:=ao) (fun _=>rfl) (ky d.number d.start a.2.2) 0) rt rt rt ti)<|Mf<|c (a.1+1,e,ky d.number d.start a.2.2) (et (bM b.1 f) (by exact i:(xy L []=xy e (ky d.number d.start a.2.2))))<|fw f
/-- What is in force on a day for a purpose. -/
noncomputable def X5 (day:Int) (p:aN) (L:List PAct) (ds:List PDeed):List PDeed:=re day p (xy L []) ds ds
theorem XV (gs:List PGaz) (day:Int) (p:aN) (hc:kD 39 [.ls (gs.map aU), .func (.func 40) [] [.ptr 1 0 0 0, .ptr 0 0 0 0, .ptr 2 0 0 0]] (aa [ig day,gi p,qQ]) (.tuple []) (aa [ig day,gi p,qQ])):kP 20 [iV day, .str p, .ls (gs.map aU)] (.ls (([]:List PDeed).map az)):=by
  exact bo Tryz.func20<|Ke 5 hc<|Kf 1 bA
theorem XK (gs:List PGaz) (day:Int) (p:aN) (X:List PDeed) (k:Nat) (hz:0<X.length) (hb:X.length<2 ^ 40) (hc:kD 39 [.ls (gs.map aU), .func (.func 40) [] [.ptr 1 0 0 0, .ptr 0 0 0 0, .ptr 2 0 0 0]] (aa [ig day,gi p,qQ]) (.tuple []) (aa [ig day,gi p,pb 3 k X.length,pv k X])):kP 20 [iV day, .str p, .ls (gs.map aU)] (.ls (X.map az)):=by
  let q:=List.map az X;exact bo Tryz.func20<|Ke 5 hc<|Mg 1<|M2 (.fsl 0 [] 6 q) ti (bT (aY k) (tA az X X.length rfl)<|aX wt X)<|Ml 6 (fK q false<|aX wt X)<|Mf<|bq<|aW q
theorem XY (gs:List PGaz) (L:List PAct) (ds:List PDeed) (day:Int) (p:aN) (hL:L.length<10000) (hd:ds.length<100000) (ha:kP 63 [.ls (gs.map aU)] (.ls (L.map aj))) (hi:kP 64 [.ls (gs.map aU)] (.ls (ds.map az))):kP 20 [iV day, .str p, .ls (gs.map aU)] (.ls ((X5 day p L ds).map az)):=by
  by_cases hE:X5 day p L ds = []
  · rw [hE];exact XV gs day p (WX gs L ds day p hL hd ha hi hE)
  · have hl:(X5 day p L ds).length≤ds.length:=List.length_filter_le ..
    exact XK gs day p _ _ (pn.2 hE) (by omega) (WZ gs L ds day p hL hd ha hi hE)
/-- The book with nothing in it. -/
def rl:TUnit:=⟨0,0,0,0, [], [], [], []⟩
theorem Qg:OkB rl:=⟨by decide,by decide,fun x hx=>by
  have e:x=rl:=by simpa [rl,be,dc] using hx
  subst e;exact ⟨bE _,bE _⟩⟩
theorem Wv (X:List PDeed) (hl:X.length<2 ^ 30) (ho : ∀ d,d∈X→xZ d.it):kP 55 [zU, .ls (X.map az)] (.tuple [eU (dU rl X), .ls ((ed rl X).map cV)]):=
  (Rz rl X Qg hl ho).args (.cons (vA _ _ (by kernel_rfl)).1 (.cons (Le.refl _) .nil))
theorem Gu (X:List PDeed) (hl:X.length<2 ^ 30) (ho : ∀ d,d∈X→xZ d.it):kP 34 [.ls (X.map az)] (.tuple [eU (dU rl X), .ls ((ed rl X).map cV)]):=by
  have h:=Wv X hl ho
  exact bo Tryz.func34<|Kp 3 h<|Kf 3<|bq<|cj [ay [iV (dU rl X).act,iV (dU rl X).item,iV (dU rl X).n,iV (dU rl X).kind,aw (dU rl X).label,aW<|List.map aQ (dU rl X).head,aW<|List.map aQ (dU rl X).words,aW<|List.map aK (dU rl X).kids],aW<|(ed rl X).map cV]
theorem KG (gs:List PGaz) (day:Int) (p:aN) (X:List PDeed) (hon:kP 20 [iV day, .str p, .ls (gs.map aU)] (.ls (X.map az))):kP 33 [iV day, .str p, .ls (gs.map aU)] (.ls (X.map az)):=by
  exact bo Tryz.func33<|Kp 3 hon<|Kf 0<|bq<|aW<|X.map az
theorem Q2 (gs:List PGaz) (day:Int) (p:aN) (X:List PDeed) (hl:X.length<2 ^ 30) (ho : ∀ d,d∈X→xZ d.it) (hon:kP 20 [iV day, .str p, .ls (gs.map aU)] (.ls (X.map az))):kP 12 [iV day, .str p, .ls (gs.map aU)] (eU (dU rl X)):=by
  have h1:=KG gs day p X hon
  have h2:=Gu X hl ho
  exact bo Tryz.func12<|Kp 3 h1<|Mp h2<|Kf 7<|bq<|ay [iV (dU rl X).act,iV (dU rl X).item,iV (dU rl X).n,iV (dU rl X).kind,aw (dU rl X).label,aW<|List.map aQ (dU rl X).head,aW<|List.map aQ (dU rl X).words,aW<|List.map aK (dU rl X).kids]
theorem Q1 (gs:List PGaz) (day:Int) (p:aN) (X:List PDeed) (hl:X.length<2 ^ 30) (ho : ∀ d,d∈X→xZ d.it) (hon:kP 20 [iV day, .str p, .ls (gs.map aU)] (.ls (X.map az))):kP 15 [iV day, .str p, .ls (gs.map aU)] (.ls ((ed rl X).map cV)):=by
  have h1:=KG gs day p X hon
  have h2:=Gu X hl ho
  exact bo Tryz.func15<|Kp 3 h1<|Mp h2<|Kf 7<|bq<|aW<|(ed rl X).map cV
theorem Ob (l m:List PWord) (hl:l.length<2 ^ 60) (hm:m.length<2 ^ 60):kP 32 [.ls (l.map aQ), .ls (m.map aQ)] (.bool (b9 Ad l m)):=by
  have rr0 b' (h:(b9 Ad l m)=b':=by first | exact mC ef hj0 | exact kT ef | (rw [iJ zD0 hr0 ef hj0];simp only [Ad,aS,ak,bS, *];first | done | rfl)):=h;exact bo Tryz.func32<|Kl 2 7 (ln aQ l)<|Kl 1 9 (ln aQ m)<|Kc 0 (Int.ofNat l.length) (Int.ofNat m.length) (fun _ _=>Ky 0<|rr0 false) fun _ _=>Mg 0<|sl aQ l [0,1,5] (fun a _=>([aW<|l.map aQ,aW<|m.map aQ,nV a],[])) (fun a=>b9 Ad l m=b9 Ad a (m.drop<|l.length - a.length)) (by (exact zu)) (fun _ _ zD0 _ hr0 a hj0=>Kl 2 13 (ln aQ l)<|Kh 0 a<|Ky 0<|rr0 true) fun a _ zD0 _ b c d hr0 e _ f hj0=>Kl 2 13 (ln aQ l)<|Kt 0 e<|Kx 1 f<|Kx 2 (aM aQ (by (simp only [oN,lM,lS] at *;omega):a<(m).length))<|Kv 0 (ud (d:=(Tryz.prog).underlying 90) (n:=4) (l:=(0,2)::(1,1)::(2,1)::(3,1):: []) (xs:=[aw b.text,iV b.act,iV b.item,iV b.at_]) (ys:=[aw (gD m a).text,iV (gD m a).act,iV (gD m a).item,iV (gD m a).at_]) (H:=AHeap.mk 1000000 Tr.nil) rfl<|mr (e:=dM b.text (gD m a).text) rfl rfl rfl<|mr (e:=ae b.act (gD m a).act) rfl rfl rfl<|mr (e:=ae b.item (gD m a).item) rfl rfl rfl<|zt (e:=ae b.at_ (gD m a).at_) rfl rfl rfl rfl)<|Mn (dM b.text (gD m a).text && (ae b.act (gD m a).act && (ae b.item (gD m a).item && ae b.at_ (gD m a).at_))) (fun _=>Kf 0<|ca<|rr0 false) fun _=>Kl 1 16 (dg a)<|Kf 0<|d<|by (rw [iJ zD0 hr0 (by (simp only [oN] at *;omega)) hj0];simp only [Ad,aS,ak,bS, *];first | done | rfl)
theorem U6 : ∀ (u:TUnit),oO u→∀ v,oO v→kP 11 [eU u,eU v] (.bool (Ae u v)):=by
  refine TUnit.ind fun u ih hu v hv=>?_
  obtain ⟨u1,u2,u3,u4⟩:=kR.1 hu
  obtain ⟨v1,v2,v3,v4⟩:=kR.1 hv
  have hh:=Ob u.head v.head u1 v1
  have hw:=Ob u.words v.words u2 v2
  have hk : ∀ a,a∈u.kids→∀ b,b∈v.kids→kP 11 [eU a,eU b] (.bool (Ae a b)):=fun a ha b hb=>ih a ha (u4 a ha) b (v4 b hb)
  have rr0 b' (h:(Ae u v)=b':=by (rw [Ih];first | (rw [mC (by (simp only [oN] at *;omega)) hj0];simp only [bb,bY,aT,aS,ak,bS, *];done) | (rw [show b9 Ae u.kids v.kids=false from kT (by (simp only [oN] at *;omega))];simp only [bb,bY,aT,aS,ak,bS, *];done) | (rw [iJ zD0 hr0 (by (simp only [oN] at *;omega)) hj0];simp only [bb,bY,aT,aS,ak,bS, *];done) | (simp only [bb,bY,aT,aS,ak,bS, *];first | done | rfl))):=h;exact bo Tryz.func11<|Kv 6 (C5 ((Tryz.prog).underlying 27) u.act u.item u.n v.act v.item v.n<|aa [aZ 8 false 0 [ay [iV u.act,iV u.item,iV u.n,iV u.kind,aw u.label,aW<|u.head.map aQ,aW<|u.words.map aQ,aW<|u.kids.map aK]],aZ 8 false 0 [ay [iV v.act,iV v.item,iV v.n,iV v.kind,aw v.label,aW<|v.head.map aQ,aW<|v.words.map aQ,aW<|v.kids.map aK]]])<|Kn 0 (ae u.act v.act && (ae u.item v.item && ae u.n v.n)) (fun c=>Mt (cQ c)<|Mt (cQ c)<|Mt (cQ c)<|Mt (cQ c)<|MV (cQ c)<|Ky 9<|rr0 false) fun c=>Kh 0 (bO c)<|Kh 0 (bO c)<|Kh 0 (bO c)<|Kh 0 (bO c)<|Kw 0 (bO c)<|Kc 0 u.kind v.kind (fun c _=>Mt (cQ c)<|Mt (cQ c)<|Mt (cQ c)<|Mt (cQ c)<|MV (cQ c)<|Ky 7<|rr0 false) fun c _=>Kh 0 (bO c)<|Kh 0 (bO c)<|Kh 0 (bO c)<|Kh 0 (bO c)<|Kw 0 (bO c)<|Kn 0 (dM u.label v.label) (fun c=>Mt (cQ c)<|Mt (cQ c)<|Mt (cQ c)<|Mt (cQ c)<|Mt (cQ c)<|MV (cQ c)<|Ky 5<|rr0 false) fun c=>Kh 0 (bO c)<|Kh 0 (bO c)<|Kh 0 (bO c)<|Kh 0 (bO c)<|Mp hh<|Mh (bO c)<|Kw 0 (bO c)<|Kn 0 (b9 Ad u.head v.head) (fun c=>Mt (cQ c)<|Mt (cQ c)<|Mt (cQ c)<|Mt (cQ c)<|Mt (cQ c)<|MV (cQ c)<|Ky 3<|rr0 false) fun c=>Kh 0 (bO c)<|Kh 0 (bO c)<|Kh 0 (bO c)<|Kh 0 (bO c)<|Mp hw<|Mh (bO c)<|Kw 0 (bO c)<|Kn 0 (b9 Ad u.words v.words) (fun c=>Mt (cQ c)<|Mt (cQ c)<|Mt (cQ c)<|Mt (cQ c)<|Mt (cQ c)<|Mt (cQ c)<|MV (cQ c)<|Ky 1<|rr0 false) fun c=>Kh 0 (bO c)<|Kh 0 (bO c)<|Kl 0 44 (ln aK u.kids)<|Mh (bO c)<|Kh 0 (bO c)<|Kh 0 (bO c)<|Kl 0 47 (ln aK v.kids)<|Mh (bO c)<|Kw 0 (bO c)<|Mn (ae (Int.ofNat u.kids.length)<|Int.ofNat v.kids.length) (fun c=>have :=wi c;Ky 0<|rr0 false) fun c=>have :=ge c;Mg 0<|sl aK u.kids [2,3,5] (fun c _=>([bK 0 0 0 0,bK 1 0 0 0,nV c],[aZ 8 false 0 [ay [iV u.act,iV u.item,iV u.n,iV u.kind,aw u.label,aW<|u.head.map aQ,aW<|u.words.map aQ,aW<|u.kids.map aK]],aZ 8 false 0 [ay [iV v.act,iV v.item,iV v.n,iV v.kind,aw v.label,aW<|v.head.map aQ,aW<|v.words.map aQ,aW<|v.kids.map aK]]])) (fun c=>b9 Ae u.kids v.kids=b9 Ae c (v.kids.drop<|u.kids.length - c.length)) (by (exact zu)) (fun _ _ zD0 _ hr0 c hj0=>Kl 3 53 (ln aK u.kids)<|Kh 0 c<|Ky 0<|rr0 true) fun c _ zD0 _ d e f hr0 g _ i hj0=>have i:=i.trans<|congrArg some<|aI d;Kl 3 53 (ln aK u.kids)<|Kt 0 g<|Kx 2 i<|Kx 3 ((aM aK (by (simp only [oN,lM,lS] at *;omega):c<(v.kids).length)).trans<|congrArg some<|aI _)<|Kp 0 (hk d (by exact aR zD0 hr0) (gD v.kids c)<|by exact iw (by (simp only [oN] at *;omega)))<|Kn 0 (Ae d<|gD v.kids c) (fun _=>Kf 0<|ca<|rr0 false) fun _=>Kl 1 56 (dg c)<|Kf 0<|f<|by (rw [iJ zD0 hr0 (by (simp only [oN] at *;omega)) hj0];simp only [aS,ak,bS, *];first | done | rfl)
theorem LP (l:List PFail) (hl:l.length<2 ^ 40):kP 14 [.ls (l.map cV), .ls (l.map cV)] (.bool true):=by
  have hr : ∀ x:Int,ae x x=true:=aT
  have rr0 b' (h:(true)=b':=by (exfalso;first | omega | (simp_all;done))):=h;exact bo Tryz.func14<|Kl 2 7 (ln cV l)<|Kl 1 9 (ln cV l)<|Kc 0 (Int.ofNat l.length) (Int.ofNat l.length) (fun _ _=>Ky 0<|rr0 false) fun _ _=>Mg 0<|Uk (0:Nat) l () [0,1,5] (fun a _ _=>([aW<|l.map cV,aW<|l.map cV,nV a],[])) (fun a b _=>(l).drop a=b∧True) (fun _ a _=>a.length) (et rfl<|by (trivial)) fun a b c d e=>Mc b (fun a=>have b:=gJ d.1 a;have :=i7 (J:=fun _ _=>True) (a:=c) a d.2;Kl 2 13 (ln cV l)<|Kh 0 b<|Kf 0<|bq<|dB true) fun b f g=>let i:=[iV b.act,iV b.item,iV b.why];have j:=gU d.1 g;have :=au j;have k:=gX (enc:=cV) d.1 g;have :=cD (J:=fun _ _=>True) (a:=c) g d.2;Kl 2 13 (ln cV l)<|Kt 0 j<|Kx 1 k<|Kx 2 k<|Kv 0 (ud (d:=(Tryz.prog).underlying 82) (n:=3) (l:=(0,1)::(1,1)::(2,1):: []) (xs:=i) (ys:=i) (H:=AHeap.mk 1000000 Tr.nil) rfl<|Qc rfl rfl (Qv b.act)<|Qc rfl rfl (Qv b.item)<|Qc rfl rfl (Qv b.why) rfl)<|Kl 2 16 (dg a)<|Kf 0<|e (a+1) f () (et (bM d.1 g)<|by trivial)<|fw g
theorem Oy (u:TUnit) (h:OkB u):kP 11 [eU u,eU u] (.bool true):=by
  have z:=U6 u (E8 h) u (E8 h)
  rwa [(TA u u).2 rfl] at z
/-- What the bound on gazettes tells. -/
structure OkG (gs:List PGaz):Prop where
  fit:pU gs
  len:gs.length≤9
  acts : ∀ g,g∈gs→g.acts.length≤8
  items : ∀ g,g∈gs→∀ a,a∈g.acts→a.items.length≤24∧∀ x,x∈a.items→mp x=true
theorem GY {most:Int} : ∀ (l:List PAct) (n m:Int),most=24→0≤n→ll most l n=some m→0≤m∧∀ a,a∈l→a.items.length≤24∧∀ x,x∈a.items→mp x=true
  | [],n,m,_,hn,h=>by simp only [ll,wM] at h;exact ⟨h ▸ hn,fun a ha=>by cases ha⟩
  | b::r,n,m,hm,hn,h=>by
    unfold ll at h
    cases hb:Aw most n b with
    | true=>rw [hb] at h;cases h
    | false=>
      rw [hb] at h
      unfold Aw at hb
      simp only [A7] at hb
      obtain ⟨z1,_,_,z2⟩:=hb
      have z1:=aB z1
      obtain ⟨q1,q2⟩:=GY r (n+Int.ofNat b.items.length) m hm (by simp only [oN] at *;omega) h
      refine ⟨q1,fun a ha=>?_⟩
      rcases fj.1 ha with rfl | ha
      · refine ⟨by simp only [oN] at *;omega,fun x hx=>?_⟩
        have z3:=pT z2
        exact nr.1 z3 x hx
      · exact q2 a ha
theorem KU : ∀ (l:List PGaz) (n:Int),0≤n→tF 24 l n=true→∀ g,g∈l→g.acts.length≤8∧∀ a,a∈g.acts→a.items.length≤24∧∀ x,x∈a.items→mp x=true
  | [],_,_,_,g,hg=>by cases hg
  | x::r,n,hn,h,g,hg=>by
    unfold tF at h
    cases hb:vk x with
    | true=>rw [hb] at h;cases h
    | false=>
      rw [hb] at h
      cases ha:ll 24 x.acts n with
      | none=>rw [ha] at h;cases h
      | some m=>
        rw [ha] at h
        obtain ⟨q1,q2⟩:=GY x.acts n m rfl hn ha
        rcases fj.1 hg with rfl | hg
        · unfold vk at hb
          have:=aB (A7.1 hb).1
          exact ⟨by simp only [oN] at *;omega,q2⟩
        · exact KU r m q1 h g hg
theorem Vz {gs:List PGaz} {p:aN} (hf:pU gs) (h:MA gs p=true):OkG gs∧gs.length≤8:=by
  unfold MA at h
  have h1:=(ph.1 h).1
  unfold MB at h1
  cases hb:ar 8 (Int.ofNat gs.length) with
  | true=>rw [hb] at h1;cases h1
  | false=>
    rw [hb] at h1
    have:=aB hb
    have hl:gs.length≤8:=by simp only [oN] at *;omega
    have q:=KU gs 0 (by omega) h1
    exact ⟨⟨hf,by omega,fun g hg=>(q g hg).1,fun g hg=>(q g hg).2⟩,hl⟩
theorem OkG.sub {gs hs:List PGaz} (h:OkG gs) (hl:hs.length≤9) (hm : ∀ g,g∈hs→g∈gs):OkG hs:=
  ⟨⟨by omega,fun g hg=>h.fit.2 g (hm g hg)⟩,hl,fun g hg=>h.acts g (hm g hg),fun g hg=>h.items g (hm g hg)⟩
theorem Bk : ∀ (ys out:List PAct),(ys.foldl jz out).length≤out.length+ys.length
  | [],out=>al _
  | a::r,out=>by
    have:=Bk r (jz out a);have:=(N3 out a).2
    simp only [lm,lC];omega
theorem zh : ∀ (gs:List PGaz),(∀ g,g∈gs→g.acts.length≤8)→∀ out,(bQ gs out).length≤out.length+8 * gs.length
  | [],_,out=>al _
  | g::r,hb,out=>by
    have:=zh r (fun x hx=>hb x (fW _ hx)) (g.acts.foldl jz out)
    have:=Bk g.acts out
    have:=hb g (fU ..)
    simp only [bQ,lm,lC] at *
    omega
theorem N2 {out:List PAct} {a b:PAct} (h:b∈jz out a):b∈out∨b=a:=by
  unfold jz at h
  split at h
  · exact .inl h
  · rcases kB.1 h with h | h
    · exact .inl h
    · exact .inr (pi.1 h)
theorem Bj : ∀ (ys out:List PAct) (b:PAct),b∈ys.foldl jz out→b∈out∨b∈ys
  | [],out,b,h=> .inl h
  | a::r,out,b,h=>by
    rcases Bj r (jz out a) b h with h | h
    · rcases N2 h with h | rfl
      · exact .inl h
      · exact .inr (fU ..)
    · exact .inr (fW _ h)
theorem zg : ∀ (gs:List PGaz) (out:List PAct) (b:PAct),b∈bQ gs out→b∈out∨∃ g,g∈gs∧b∈g.acts
  | [],out,b,h=> .inl h
  | g::r,out,b,h=>by
    rcases zg r (g.acts.foldl jz out) b h with h | ⟨g2,q1,q2⟩
    · rcases Bj g.acts out b h with h | h
      · exact .inl h
      · exact .inr ⟨g,fU ..,h⟩
    · exact .inr ⟨g2,fW _ q1,q2⟩
theorem uc : ∀ (l:List PAct),(∀ a,a∈l→a.items.length≤24)→(mL l).length≤24 * l.length
  | [],_=>al _
  | a::r,h=>by
    have:=uc r fun b hb=>h b (fW _ hb)
    have:=h a (fU ..)
    simp only [mL,List.flatMap_cons,lA,lX,lC] at *
    omega
theorem OkG.act {gs:List PGaz} (h:OkG gs) {a:PAct} (ha:a∈gw gs):a.items.length≤24∧(∀ x,x∈a.items→mp x=true)∧QJ a:=by
  have ha:=(mM gs).mem_iff.1 ha
  rcases zg gs [] a ha with q | ⟨g,h1,h2⟩
  · cases q
  · exact ⟨(h.items g h1 a h2).1,(h.items g h1 a h2).2,(h.fit.2 g h1).2 a h2⟩
/-- The items as they stand. -/
noncomputable def qc (gs:List PGaz):List PDeed:=bF (ap (gw gs) []) (gw gs)
theorem OkG.lens {gs:List PGaz} (h:OkG gs):(gw gs).length≤72∧(qc gs).length≤1728:=by
  have h1:=zh gs h.acts []
  have h2:=(mM gs).length_eq
  have h3:=uc (gw gs) fun a ha=>(h.act ha).1
  have h4:=h.len
  have h5:(qc gs).length=(mL (gw gs)).length:=bI ..
  simp only [lN] at h1
  omega
theorem OkG.all {gs:List PGaz} (h:OkG gs):kP 63 [.ls (gs.map aU)] (.ls ((gw gs).map aj))∧kP 64 [.ls (gs.map aU)] (.ls ((qc gs).map az)):=by
  have h1:=h.lens
  have h2:=(mM gs).length_eq
  have h3:(qc gs).length=(mL (gw gs)).length:=bI ..
  have h4:=h.len
  exact ⟨K5 gs h.fit (fun g hg=>pZ (h.acts g hg) (by decide)) (by omega) (by omega),Pe gs h.fit (fun g hg=>pZ (h.acts g hg) (by decide)) (by omega) (by omega) (fun a ha=>pZ (h.act ha).1 (by decide)) (by omega)⟩
theorem Wz {x y:PItem} (h:mp x=true) (hy:y∈x.by_):mp y=true:=by
  rw [Dy] at h
  simp only [bV] at h
  have:=nr.1 h.2.2.2.2.2 y hy
  unfold GP at this
  exact (ph.1 this).2
theorem Wq {x y:PItem} (h:mR x) (hy:y∈x.by_):mR y:=(qz.1 h).2.2.2.2.2.2 y hy
theorem EC {K V:Type} {keq:K→K→Bool} {k:K} {v:V} : ∀ {l:List (K × V)} {e:K × V},e∈fk keq k v l→e∈l∨e.2=v
  | [],e,h=>by
    rw [fk,pi] at h;exact .inr (by rw [h])
  | (j,u)::r,e,h=>by
    rw [fk] at h
    cases q:keq k j with
    | true=>
      rw [q] at h
      rcases fj.1 h with h | h
      · exact .inr (by rw [h])
      · exact .inl (fW _ h)
    | false=>
      rw [q] at h
      rcases fj.1 h with h | h
      · exact .inl (by rw [h];exact fU ..)
      · rcases EC (l:=r) h with h | h
        · exact .inl (fW _ h)
        · exact .inr h
theorem FT {K V:Type} {keq:K→K→Bool} {k:K} {v:V} : ∀ {l:List (K × V)},ni keq k l=some v→∃ e,e∈l∧e.2=v
  | [],h=>by cases h
  | (j,u)::r,h=>by
    rw [ni] at h
    cases q:keq k j with
    | true=>rw [q] at h;exact ⟨(j,u),fU ..,I3 h⟩
    | false=>
      rw [q] at h
      obtain ⟨e,h1,h2⟩:=FT (l:=r) h
      exact ⟨e,fW _ h1,h2⟩
theorem MT {m:List ((Int × Int) × PItem)} {x:PItem} (hm : ∀ e,e∈m→xZ e.2) (h1:mp x=true) (h2:mR x) : ∀ e,e∈jy m x→xZ e.2:=by
  unfold jy
  split
  · rename_i h
    simp only [bV] at h
    have hl:=au h.1.2
    have hy:gD x.by_ 0∈x.by_:=iw (by simp only [oN] at hl;omega)
    intro e he
    rcases EC he with q | q
    · exact hm e q
    · rw [q];exact O4 (Wq h2 hy) (Wz h1 hy)
  · exact hm
theorem Cj : ∀ (xs:List PItem) (m:List ((Int × Int) × PItem)),(∀ e,e∈m→xZ e.2)→(∀ x,x∈xs→mp x=true∧mR x)→∀ e,e∈xs.foldl jy m→xZ e.2
  | [],_,hm,_=>hm
  | x::r,m,hm,h=>Cj r (jy m x) (MT hm (h x (fU ..)).1 (h x (fU ..)).2) fun y hy=>h y (fW _ hy)
theorem Cx : ∀ (l:List PAct) (m:List ((Int × Int) × PItem)),(∀ e,e∈m→xZ e.2)→(∀ a,a∈l→∀ x,x∈a.items→mp x=true∧mR x)→∀ e,e∈ap l m→xZ e.2
  | [],_,hm,_=>hm
  | a::r,m,hm,h=>Cx r (a.items.foldl jy m) (Cj a.items m hm (h a (fU ..))) fun b hb=>h b (fW _ hb)
theorem zL (a:PAct) : ∀ (l:List PItem) (i:Nat) (d:PDeed),d∈cX a l i→d.it∈l
  | [],_,d,h=>by cases h
  | x::r,i,d,h=>by
    rcases fj.1 h with rfl | h
    · exact fU ..
    · exact fW _ (zL a r _ d h)
theorem OkG.deed {gs:List PGaz} (h:OkG gs) {d:PDeed} (hd:d∈qc gs):xZ d.it:=by
  have hi : ∀ a,a∈gw gs→∀ x,x∈a.items→mp x=true∧mR x:=fun a ha x hx=>⟨(h.act ha).2.1 x hx,(h.act ha).2.2.2 x hx⟩
  obtain ⟨o,ho,rfl⟩:=jd.1 hd
  obtain ⟨a,ha,hoa⟩:=List.mem_flatMap.1 ho
  have h1:=hi a ha _ (zL a _ _ _ hoa)
  have h2:xZ o.it:=O4 h1.2 h1.1
  unfold mP
  split
  · rename_i hc
    have hc:=(ph.1 hc).1
    unfold qY at hc
    show xZ (Ha (ap (gw gs) []) o)
    unfold Ha
    cases q:ni oR (o.act,o.item) (ap (gw gs) []) with
    | none=>rw [q] at hc;cases hc
    | some v=>
      obtain ⟨e,e1,e2⟩:=FT q
      have:=Cx (gw gs) [] (fun e he=>by cases he) hi e e1
      rw [e2] at this
      exact this
  · exact h2
/-- What is in force. -/
noncomputable def ml (day:Int) (p:aN) (gs:List PGaz):List PDeed:=X5 day p (gw gs) (qc gs)
noncomputable def KO (day:Int) (p:aN) (gs:List PGaz):TUnit:=dU rl (ml day p gs)
theorem OkG.force {gs:List PGaz} (h:OkG gs) (day:Int) (p:aN):(ml day p gs).length<2 ^ 30∧(∀ d,d∈ml day p gs→xZ d.it)∧kP 20 [iV day, .str p, .ls (gs.map aU)] (.ls ((ml day p gs).map az)):=by
  have hl:=h.lens
  have h1:(ml day p gs).length≤(qc gs).length:=List.length_filter_le ..
  exact ⟨by omega,fun d hd=>h.deed (List.mem_filter.1 hd).1,XY gs _ _ day p (by omega) (by omega) h.all.1 h.all.2⟩
theorem OkG.book {gs:List PGaz} (h:OkG gs) (day:Int) (p:aN):kP 12 [iV day, .str p, .ls (gs.map aU)] (eU (KO day p gs)):=
  Q2 gs day p _ (h.force day p).1 (h.force day p).2.1 (h.force day p).2.2
theorem OkG.fails {gs:List PGaz} (h:OkG gs) (day:Int) (p:aN):kP 15 [iV day, .str p, .ls (gs.map aU)] (.ls ((ed rl (ml day p gs)).map cV)):=
  Q1 gs day p _ (h.force day p).1 (h.force day p).2.1 (h.force day p).2.2
theorem OkG.okB {gs:List PGaz} (h:OkG gs) (day:Int) (p:aN):OkB (KO day p gs):=GT Qg (h.force day p).2.1
end Go.Proofs.YtempcdhknnjebaaGreatDoor
