/- Functions walked: what each of them answers, for the law of steps: part 7. Conditions: those that each theorem names. -/
import Derived.Test.YtempcdhknnjebaaGreatDoorH6
namespace Go.Proofs.YtempcdhknnjebaaGreatDoor
open Go Go.Ev
theorem vT:kP 68 [.nils] (.ls ((iT []).map aK)):=(iM [] (by simp)).onArgs (.cons Le.nils .nil)
theorem CP {g:Int→Bool} {K:List Int} {x e:Nat} {S:List PSpan} (h:S=jR g (K.drop (x - 1))) (h1:1≤x) (h2:x<K.length) (hg:g (gD K (x - 1))=true) (he:e=x+1):S=⟨gD K (x - 1),gD K x⟩::jR g (K.drop (e - 1)):=by rw [h,Bf h1 h2,hg,he]
theorem CR {g:Int→Bool} {K:List Int} {x e:Nat} {S:List PSpan} (h:S=jR g (K.drop (x - 1))) (h1:1≤x) (h2:x<K.length) (hg:g (gD K (x - 1))=false) (he:e=x+1):S=jR g (K.drop (e - 1)):=by rw [h,Bf h1 h2,hg,he]
theorem Xu:bU (dC (pZ [])) = []:=rk (by have z:=zN [];exact Nat.le_zero.1 z)
theorem WY {A B x y:List PSpan} (h1:A=x) (h2:B=y):x++y=A++B:=by rw [h1,h2]
theorem QO {A B x:List PSpan} (h1:A=x) (h2:B = []):x=A++B:=by rw [h1,h2,ed]
theorem Uo {A B y:List PSpan} (h1:A = []) (h2:B=y):y=A++B:=by rw [h1,h2];rfl
theorem SE {A r:List PSpan} {w:PSpan} (h:A=w::r) (hl:A.length≤1048577):r.length<2 ^ 30:=by rw [h,lC] at hl;omega
theorem RL {A B:List PSpan} {w v:PSpan} {r s:List PSpan} (h:A=w::r) (k:B=v::s) (hl:A.length≤1048577) (kl:B.length≤1048577):small (r.length+1+((v::s).map aK).length) 16=true:=by
  rw [h,lC] at hl;rw [k,lC] at kl
  rw [lM,lC];refine eV (m:=2 ^ 31) ?_ ?_ ?_ <;> omega
theorem Jw {B:List PSpan} {v:PSpan} {s:List PSpan} (k:B=v::s) (kl:B.length≤1048577):small ((v::s).map aK).length 16=true:=by
  rw [k,lC] at kl
  rw [lM,lC];refine eV (m:=2 ^ 31) ?_ ?_ ?_ <;> omega
def QS (F:Nat) (A:List PSpan) (B:List PSpan) (z20:List PSpan):Prop:=z20=A++B
noncomputable def QR (F:Nat) (A:List PSpan) (B:List PSpan) (z20:List PSpan):List AV × List AObj:=([AV.ls (A.map aK),AV.ls (B.map aK),AV.func (Fn.func F) [] [],AV.nils,AV.ls (z20.map aK),nV z20.length,iV 0], [])
def M8 (F:Nat) (A:List PSpan) (B:List PSpan) (z20:List PSpan) (z37:List Int):Prop:=z37=iW z20
noncomputable def M7 (F:Nat) (A:List PSpan) (B:List PSpan) (z20:List PSpan) (z37:List Int):List AV × List AObj:=([AV.ls (A.map aK),AV.ls (B.map aK),AV.func (Fn.func F) [] [],AV.ls (z37.map bd)], [])
def M6 (F:Nat) (A:List PSpan) (B:List PSpan) (z20:List PSpan) (z37:List Int):Prop:=z37=iW z20
noncomputable def M5 (F:Nat) (A:List PSpan) (B:List PSpan) (z20:List PSpan) (z37:List Int):List AV × List AObj:=([AV.ls (A.map aK),AV.ls (B.map aK),AV.func (Fn.func F) [] [],AV.ls (z37.map bd)], [])
theorem KN (F:Nat) (op:Bool→Bool→Bool) (hF : ∀ x y,aN Tryz.prog G F [.bool x, .bool y] (.bool (op x y))) (e0:op false false=false) (a b:List PSpan) (ha:a.length<2 ^ 30) (hb:b.length<2 ^ 30) :
    aN Tryz.prog G 324 [.ls (a.map aK), .ls (b.map aK), .func (.func F) [] []] (.ls ((ru op a b).map aK)):=by
  have nA:=iM a ha
  have nB:=iM b hb
  have hA:=mU a
  have hB:=mU b
  have hd:=M9 e0 (a:=a) (b:=b) rfl rfl
  generalize iT a=A at *
  generalize iT b=B at *
  have lA:=hA.len
  have lB:=hB.len
  have hasA : ∀ d,aN Tryz.prog G 67 [.ls (A.map aK), .int .i64 d] (.bool (ie A d)):=fun d=>IU A d hA.sort (by omega)
  have hasB : ∀ d,aN Tryz.prog G 67 [.ls (B.map aK), .int .i64 d] (.bool (ie B d)):=fun d=>IU B d hB.sort (by omega)
  obtain ⟨g,hg⟩ : ∃ g:Int→Bool,g=fun d=>op (ie A d) (ie B d):=⟨_,rfl⟩
  have hgv : ∀ d v0,op (ie A d) (ie B d)=v0→g d=v0:=fun d v0 h=>by rw [hg];exact h
  rw [← hg] at hd
  have hcl : ∀ x,x=A++B→(iW x).length<2 ^ 30:=fun x hx=>by
    have z:=zN x
    rw [hx,dT] at z
    rw [hx];omega
  have hll : ∀ x,x=A++B→x.length<2 ^ 22:=fun x hx=>by rw [hx,dT];omega
  obtain ⟨res,hres⟩ : ∃ res,res=ru op a b:=⟨_,rfl⟩
  rw [← hres] at hd ⊢
  have hdone : ∀ x y z,x=A++B→y=iW x→jR g y=z→iT z=res:=fun x y z h1 h2 h3=>by rw [← h3,h2,h1];exact hd
  clear hd hg hres hA hB
  have rr0 b' (h:(List.map aK res)=b':=by first | rfl | exact hdone _ _ _ hz20 hz37 (by rw [hx1.2.2,kL hx1.1 (by (first | omega | (simp only [aI] at *;omega)))]) | exact (hdone _ _ _ hz20 hz37 (by rw [hx1.2.2.2.2,kL hx1.1 (by (first | omega | (simp only [aI] at *;omega))),ed])) | (rw [hdone _ _ _ hz20 hz37 (by rw [hx1.2.2,kL hx1.1 (by (first | omega | (simp only [aI] at *;omega)))])]) | (rw [hdone _ _ _ hz20 hz37 (by rw [hx1.2.2.2.2,kL hx1.1 (by (first | omega | (simp only [aI] at *;omega))),ed])])):=h;exact bg Tryz.func324<|Kp 1 nA<|Kp 0 nB<|Mg 2<|M0 .inn<|Mj (List PSpan) [0,1,2,7,20,21,22] (QR F A B) (QS F A B) (fun c=>Mg 0<|Mc A (fun e=>Ml 17 (fK<|by rw [e];rfl:Le (aW []) (aW (List.map aK A)))<|Mz 17 (fun (_:([]:List AV) = [])=>Mg 1<|Mc B (fun e=>Ml 19 (fK<|by rw [e];rfl:Le (aW []) (aW (List.map aK B)))<|Kl 0 20 bo<|Kf 1<|c [] (by exact QO (by assumption) (by assumption):[]=A++B)) fun e f i=>Ml 19 (fK<|by rw [i]:Le (aW (List.map aK (e::f))) (aW (List.map aK B)))<|M2 .apl (et (by exact m8 _ _:List.map aK (e::f)≠ [])<|fM 2 aK (e::f) fun _=>rfl) (by exact Jw (by assumption) lB:small (List.map aK (e::f)).length 16=true)<|M2 (.fsl 0 [0,1,2,7] 20<|List.map aK<|e::f) True.intro (cH (aU 0) (tA aK (e::f) (List.map aK<|e::f).length (by (simp only [b8,cN,dT];done):(e::f).length=(List.map aK (e::f)).length))<|aX Uh<|e::f)<|Ml 20 (fg (List.map aK<|e::f) false<|aX Uh<|e::f)<|Kl 0 21 (ln aK<|e::f)<|Kf 0<|c (e::f) (by exact Uo (by assumption) (by assumption):e::f=A++B))<|Mg 1<|Mc B (fun e=>Ml 19 (fK<|by rw [e];rfl:Le (aW []) (aW (List.map aK B)))<|Kl 0 20 (fg [] true (aU 0:aq ([])=0))<|Kf 1<|c [] (by exact QO (by assumption) (by assumption):[]=A++B)) fun e f i=>Ml 19 (fK<|by rw [i]:Le (aW (List.map aK (e::f))) (aW (List.map aK B)))<|M2 .apl (et (by exact m8 _ _:List.map aK (e::f)≠ [])<|fM 2 aK (e::f) fun _=>rfl) (by exact Jw (by assumption) lB:small (List.map aK (e::f)).length 16=true)<|M2 (.fsl 0 [0,1,2,7] 20<|List.map aK<|e::f) True.intro (cH (aU 0) (tA aK (e::f) (List.map aK<|e::f).length (by (simp only [b8,cN,dT];done):(e::f).length=(List.map aK (e::f)).length))<|aX Uh<|e::f)<|Ml 20 (fg (List.map aK<|e::f) false<|aX Uh<|e::f)<|Kl 0 21 (ln aK<|e::f)<|Kf 0<|c (e::f) (by exact Uo (by assumption) (by assumption):e::f=A++B)) fun e f i=>Ml 17 (fK<|by rw [i]:Le (aW (List.map aK (e::f))) (aW (List.map aK A)))<|Me (Qu e f<|by exact SE (by assumption) lA)<|Mg 0<|Mc B (fun i=>Ml 19 (fK<|by rw [i];rfl:Le (aW []) (aW (List.map aK B)))<|Mg 0<|M2 (.fsl 0 [0,1,2,7] 20<|List.map aK<|e::f) True.intro (cH (aU 0) (tA aK (e::f) (f.length+1) rfl)<|aX Uh<|e::f)<|Ml 20 (fg (List.map aK<|e::f) false<|aX Uh<|e::f)<|Kl 0 21 (ln aK<|e::f)<|Kf 0<|c (e::f) (by exact QO (by assumption) (by assumption):e::f=A++B)) fun i j k=>Ml 19 (fK<|by rw [k]:Le (aW (List.map aK (i::j))) (aW (List.map aK B)))<|M2 .apl (et (by exact m8 _ _:List.map aK (i::j)≠ [])<|fM 2 aK (i::j) fun _=>rfl) (cH (aU 0) (by (simp only [b8,cN,dT];done):f.length+1=(List.map aK (e::f)).length) (by exact RL (by assumption) (by assumption) lA lB:small (f.length+1+(List.map aK (i::j)).length) 16=true))<|M1 (.obj 0<|aZ 2 true (0+1)<|List.map aK<|e::f++i::j) (congrArg (aZ 2 true<|0+1)<|dr (f:=aK) (l:=e::f) (ws:=i::j))<|M2 (.fsl 0 [0,1,2,7] 20<|List.map aK<|e::f++i::j) True.intro (cH (aU<|0+1) (tA aK (e::f++i::j) (f.length+1+(List.map aK<|i::j).length) (by (simp only [b8,cN,dT];done):(e::f++i::j).length=f.length+1+(List.map aK (i::j)).length))<|aX Uh<|e::f++i::j)<|Ml 20 (fg (List.map aK<|e::f++i::j) false<|aX Uh<|e::f++i::j)<|Kl 0 21 (ln aK<|e::f++i::j)<|Kf 0<|c (e::f++i::j) (by exact WY (by assumption) (by assumption):e::f++i::j=A++B)) fun c hz20=>have hz20:=hz20;ll Nat Nat (List Int) aK c [0,1,2,7,20,21,22] (fun e _=>([aW<|A.map aK,aW<|B.map aK,bZ (bQ F) [] [],ak,aW<|c.map aK,nV c.length,nV e],[])) (fun e _ f i j=>([aW<|A.map aK,aW<|B.map aK,bZ (bQ F) [] [],aG 0 f 0 i none,aW<|c.map aK,nV c.length,nV e],[aZ 1 true f<|j.map bd])) (fun e=>pZ c=pZ e) (fun e _ f i=>f=i.length∧(0:Nat)<i.length∧pZ c=i++pZ e) (by rfl) (fun _ _ _ _ _ e f=>Kh 0 e<|Kp 0 Ft<|Mj (List Int) [0,1,2,7] (M7 F A B c) (M8 F A B c) (fun e=>Kl 1 37 bo<|Kf 0<|e [] (by (unfold iW;rw [f];exact Xu.symm):[]=iW c)) fun e hz37=>have hz37:=hz37;have :=hz37 ▸ hcl _ hz20;Mg 1<|Rv Nat Nat Nat (List PSpan) (1:Nat) [0,1,2,7,10,11] (fun c=>([aW<|A.map aK,aW<|B.map aK,bZ (bQ F) [] [],aW<|e.map bd,ak,nV c],[])) (fun c f i j=>([aW<|A.map aK,aW<|B.map aK,bZ (bQ F) [] [],aW<|e.map bd,aG 0 f 0 i none,nV c],[aZ 2 true f<|j.map aK])) (fun c=>(1:Nat)≤c∧c≤2 ^ 30∧jR g e=jR g (e.drop<|c - 1)) (fun c _ f i=>(1:Nat)≤c∧c≤2 ^ 30∧f=i.length∧i.length<c∧jR g e=i++jR g (e.drop<|c - 1)) (fun c=>2 ^ 31 - c) (fun c _ _ _=>2 ^ 31 - c) (by exact ⟨af _,by omega,rfl⟩) (fun c hx1 f i=>have hx1:=hx1;have :=hx1.1;have :=hx1.2.1;Kl 2 40 (ln bd e)<|Ka 0 (Int.ofNat c) (Int.ofNat e.length) (fun _ _=>Kl 2 46 (EV c)<|Mx (aR bd (by (simp only [aI,b8,kw] at *;omega):c - 1<(e).length))<|Kp 4 (hasA<|gD e<|c - 1)<|Kp 1 (hasB<|gD e<|c - 1)<|Mp (hF (ie A<|gD e<|c - 1)<|ie B<|gD e<|c - 1)<|Mb (op (ie A<|gD e<|c - 1)<|ie B<|gD e<|c - 1) (fun _=>Kx 3 (aR bd (by (simp only [aI,b8,kw] at *;omega):c<(e).length))<|Kl 6 43 (jY c)<|Kf 0<|i (c+1) 0 1 [PSpan.mk (gD e<|c - 1)<|gD e c] (by exact ⟨by (omega),by (simp only [aI] at *;omega),rfl,by (simp only [cN,gc];omega),CP hx1.2.2 hx1.1 (by (simp only [aI] at *;omega)) (hgv _ _ (by assumption)) rfl⟩)<|by (omega)) fun _=>Kl 1 43 (jY c)<|Kf 0<|f (c+1) (by exact ⟨by (omega),by (simp only [aI] at *;omega),CR hx1.2.2 hx1.1 (by (simp only [aI] at *;omega)) (hgv _ _ (by assumption)) rfl⟩)<|by (omega)) fun _ _=>Kp 0 vT<|Kf 0<|cj<|rr0<|List.map aK<|iT []) fun c i j k hx1 _ l=>have hx1:=hx1;have :=hx1.1;have :=hx1.2.1;Kl 2 40 (ln bd e)<|Ka 0 (Int.ofNat c) (Int.ofNat e.length) (fun _ _=>Kl 2 46 (EV c)<|Mx (aR bd (by (simp only [aI,b8,kw] at *;omega):c - 1<(e).length))<|Kp 4 (hasA<|gD e<|c - 1)<|Kp 1 (hasB<|gD e<|c - 1)<|Mp (hF (ie A<|gD e<|c - 1)<|ie B<|gD e<|c - 1)<|Mb (op (ie A<|gD e<|c - 1)<|ie B<|gD e<|c - 1) (fun _=>Kx 3 (aR bd (by (simp only [aI,b8,kw] at *;omega):c<(e).length))<|K1 2 .app (cH (aU i) (by (rw [b8];first | exact f.1 | exact hx1.2.2.1):j=(List.map aK k).length) (by (refine eV (m:=2 ^ 31) ?_ ?_ ?_ <;> first | omega | (simp only [b8,cN,dT,gc];omega) | (have z:=congrArg List.length f.2.2;rw [kX,dT] at z;have z9:=hll _ hz20;have z2:=f.1;first | omega | (simp only [cN,gc];omega)) | (have z:=hx1.2.2.2.1;have z2:=hx1.2.2.1;have z3:=hx1.2.1;first | omega | (simp only [cN,gc];omega))):small (j+1) 16=true))<|M1 (.obj 0<|aZ 2 true (i+1)<|List.map aK<|k++ [PSpan.mk (gD e<|c - 1)<|gD e c]) (congrArg (aZ 2 true<|i+1)<|dr (f:=aK) (l:=k) (ws:=[PSpan.mk (gD e<|c - 1)<|gD e c]))<|Kl 2 43 (jY c)<|Kf 0<|l (c+1) (i+1) (j+1) (k++ [PSpan.mk (gD e<|c - 1)<|gD e c]) (by exact ⟨by (omega),by (simp only [aI] at *;omega),by rw [dT,← hx1.2.2.1];rfl,by (have z:=hx1.2.2.2.1;simp only [dT,cN,gc];omega),by rw [hx1.2.2.2.2,CP rfl hx1.1 (by (simp only [aI] at *;omega)) (hgv _ _ (by assumption)) rfl];simp⟩)<|by (omega)) fun _=>Kl 1 43 (jY c)<|Kf 0<|l (c+1) i j k (by exact ⟨by (omega),by (simp only [aI] at *;omega),hx1.2.2.1,by (have z:=hx1.2.2.2.1;omega),by rw [hx1.2.2.2.2,CR rfl hx1.1 (by (simp only [aI] at *;omega)) (hgv _ _ (by assumption)) rfl]⟩)<|by (omega)) fun _ _=>Mg 0<|M2 (.fsl 0 [] 66<|List.map aK k) True.intro (cH (aU i) (tA aK k j (by (omega):(k).length=j))<|aX Uh k)<|Ml 66 (fg (List.map aK k) false<|aX Uh k)<|Mp (iM k<|by (omega))<|Kf 0<|cj<|rr0<|List.map aK<|iT k) (fun e _ _ _ f i _ j _ k _ l n=>have :=hll _ hz20;Kt 0 k<|Mx l<|Kl 11 33 (jY e)<|Mg 0<|M0 (.ren [1,0] [] [0,1,2,7,20,21,22])<|M1 (.frz 1 [0,1,2,7,20,21,22]) (et (aU true) True.intro)<|Mf<|j 0 2 [f.from_,f.to]<|by exact ⟨rfl,by simp,by rw [n];rfl⟩) (fun _ _ e f i _ _ _ j k=>Kh 0 j<|Ke 0 (IJ i e f (by (omega)) (by (omega))<|by (have z:=congrArg List.length k.2.2;rw [kX,dT] at z;have z9:=hll _ hz20;omega))<|Mj (List Int) [0,1,2,7] (M5 F A B c) (M6 F A B c) (fun j=>Ke 0 (AE (dC i) e f (by (rw [(km _).length_eq];first | exact k.1 | exact k.2.1 | (have z:=congrArg List.length k.2.2;rw [kX,dT] at z;have z9:=hll _ hz20;omega))) (by (rw [(km _).length_eq];first | exact k.1 | exact k.2.1 | (have z:=congrArg List.length k.2.2;rw [kX,dT] at z;have z9:=hll _ hz20;omega)))<|by (rw [(km _).length_eq];first | exact k.1 | exact k.2.1 | (have z:=congrArg List.length k.2.2;rw [kX,dT] at z;have z9:=hll _ hz20;omega)))<|M2 (.fsl 0 [0,1,2] 37<|List.map bd<|List.take (bU<|dC i).length<|bU (dC i)++List.replicate ((dC i).length - (bU<|dC i).length) 0) True.intro (cH (aU e) (Bv (f:=bd) (l:=bU (dC i)++List.replicate ((dC i).length - (bU<|dC i).length) 0) (n:=(bU<|dC i).length))<|aX V4<|List.take (bU<|dC i).length<|bU (dC i)++List.replicate ((dC i).length - (bU<|dC i).length) 0)<|Ml 37 (fg (List.map bd<|List.take (bU<|dC i).length<|bU (dC i)++List.replicate ((dC i).length - (bU<|dC i).length) 0) false<|aX V4<|List.take (bU<|dC i).length<|bU (dC i)++List.replicate ((dC i).length - (bU<|dC i).length) 0)<|Kf 0<|j (List.take (bU<|dC i).length<|bU (dC i)++List.replicate ((dC i).length - (bU<|dC i).length) 0) (by (unfold iW;rw [k.2.2];simp [pZ]):List.take (bU (dC i)).length (bU (dC i)++List.replicate ((dC i).length - (bU (dC i)).length) (0:Int))=iW c)) fun e hz37=>have hz37:=hz37;have :=hz37 ▸ hcl _ hz20;Mg 1<|Rv Nat Nat Nat (List PSpan) (1:Nat) [0,1,2,7,10,11] (fun c=>([aW<|A.map aK,aW<|B.map aK,bZ (bQ F) [] [],aW<|e.map bd,ak,nV c],[])) (fun c f i j=>([aW<|A.map aK,aW<|B.map aK,bZ (bQ F) [] [],aW<|e.map bd,aG 0 f 0 i none,nV c],[aZ 2 true f<|j.map aK])) (fun c=>(1:Nat)≤c∧c≤2 ^ 30∧jR g e=jR g (e.drop<|c - 1)) (fun c _ f i=>(1:Nat)≤c∧c≤2 ^ 30∧f=i.length∧i.length<c∧jR g e=i++jR g (e.drop<|c - 1)) (fun c=>2 ^ 31 - c) (fun c _ _ _=>2 ^ 31 - c) (by exact ⟨af _,by omega,rfl⟩) (fun c hx1 f i=>have hx1:=hx1;have :=hx1.1;have :=hx1.2.1;Kl 2 40 (ln bd e)<|Ka 0 (Int.ofNat c) (Int.ofNat e.length) (fun _ _=>Kl 2 46 (EV c)<|Mx (aR bd (by (simp only [aI,b8,kw] at *;omega):c - 1<(e).length))<|Kp 4 (hasA<|gD e<|c - 1)<|Kp 1 (hasB<|gD e<|c - 1)<|Mp (hF (ie A<|gD e<|c - 1)<|ie B<|gD e<|c - 1)<|Mb (op (ie A<|gD e<|c - 1)<|ie B<|gD e<|c - 1) (fun _=>Kx 3 (aR bd (by (simp only [aI,b8,kw] at *;omega):c<(e).length))<|Kl 6 43 (jY c)<|Kf 0<|i (c+1) 0 1 [PSpan.mk (gD e<|c - 1)<|gD e c] (by exact ⟨by (omega),by (simp only [aI] at *;omega),rfl,by (simp only [cN,gc];omega),CP hx1.2.2 hx1.1 (by (simp only [aI] at *;omega)) (hgv _ _ (by assumption)) rfl⟩)<|by (omega)) fun _=>Kl 1 43 (jY c)<|Kf 0<|f (c+1) (by exact ⟨by (omega),by (simp only [aI] at *;omega),CR hx1.2.2 hx1.1 (by (simp only [aI] at *;omega)) (hgv _ _ (by assumption)) rfl⟩)<|by (omega)) fun _ _=>Kp 0 vT<|Kf 0<|cj<|rr0<|List.map aK<|iT []) fun c f i j hx1 _ l=>have hx1:=hx1;have :=hx1.1;have :=hx1.2.1;Kl 2 40 (ln bd e)<|Ka 0 (Int.ofNat c) (Int.ofNat e.length) (fun _ _=>Kl 2 46 (EV c)<|Mx (aR bd (by (simp only [aI,b8,kw] at *;omega):c - 1<(e).length))<|Kp 4 (hasA<|gD e<|c - 1)<|Kp 1 (hasB<|gD e<|c - 1)<|Mp (hF (ie A<|gD e<|c - 1)<|ie B<|gD e<|c - 1)<|Mb (op (ie A<|gD e<|c - 1)<|ie B<|gD e<|c - 1) (fun _=>Kx 3 (aR bd (by (simp only [aI,b8,kw] at *;omega):c<(e).length))<|K1 2 .app (cH (aU f) (by (rw [b8];first | exact k.1 | exact hx1.2.2.1):i=(List.map aK j).length) (by (refine eV (m:=2 ^ 31) ?_ ?_ ?_ <;> first | omega | (simp only [b8,cN,dT,gc];omega) | (have z:=congrArg List.length k.2.2;rw [kX,dT] at z;have z9:=hll _ hz20;have z2:=k.1;first | omega | (simp only [cN,gc];omega)) | (have z:=hx1.2.2.2.1;have z2:=hx1.2.2.1;have z3:=hx1.2.1;first | omega | (simp only [cN,gc];omega))):small (i+1) 16=true))<|M1 (.obj 0<|aZ 2 true (f+1)<|List.map aK<|j++ [PSpan.mk (gD e<|c - 1)<|gD e c]) (congrArg (aZ 2 true<|f+1)<|dr (f:=aK) (l:=j) (ws:=[PSpan.mk (gD e<|c - 1)<|gD e c]))<|Kl 2 43 (jY c)<|Kf 0<|l (c+1) (f+1) (i+1) (j++ [PSpan.mk (gD e<|c - 1)<|gD e c]) (by exact ⟨by (omega),by (simp only [aI] at *;omega),by rw [dT,← hx1.2.2.1];rfl,by (have z:=hx1.2.2.2.1;simp only [dT,cN,gc];omega),by rw [hx1.2.2.2.2,CP rfl hx1.1 (by (simp only [aI] at *;omega)) (hgv _ _ (by assumption)) rfl];simp⟩)<|by (omega)) fun _=>Kl 1 43 (jY c)<|Kf 0<|l (c+1) f i j (by exact ⟨by (omega),by (simp only [aI] at *;omega),hx1.2.2.1,by (have z:=hx1.2.2.2.1;omega),by rw [hx1.2.2.2.2,CR rfl hx1.1 (by (simp only [aI] at *;omega)) (hgv _ _ (by assumption)) rfl]⟩)<|by (omega)) fun _ _=>Mg 0<|M2 (.fsl 0 [] 66<|List.map aK j) True.intro (cH (aU f) (tA aK j i (by (omega):(j).length=i))<|aX Uh j)<|Ml 66 (fg (List.map aK j) false<|aX Uh j)<|Mp (iM j<|by (omega))<|Kf 0<|cj<|rr0<|List.map aK<|iT j) fun e _ f i j _ _ k l _ n _ o _ p q=>have :=hll _ hz20;Kt 0 o<|Mx p<|K1 8 .app (cH (aU f) (by (rw [b8];first | exact q.1 | exact hx1.2.2.1):i=(List.map bd j).length) (by (refine eV (m:=2 ^ 31) ?_ ?_ ?_ <;> first | omega | (simp only [b8,cN,dT,gc];omega) | (have z:=congrArg List.length q.2.2;rw [kX,dT] at z;have z9:=hll _ hz20;have z2:=q.1;first | omega | (simp only [cN,gc];omega)) | (have z:=hx1.2.2.2.1;have z2:=hx1.2.2.1;have z3:=hx1.2.1;first | omega | (simp only [cN,gc];omega))):small (i+2) 8=true))<|M1 (.obj 0<|aZ 1 true (f+1)<|List.map bd<|j++ [k.from_,k.to]) (congrArg (aZ 1 true<|f+1)<|dr (f:=bd) (l:=j) (ws:=[k.from_,k.to]))<|Kl 1 33 (jY e)<|K1 0 (.frz 1 [0,1,2,7,20,21,22]) (et (tR 1 true (f+1) 1<|aX V4<|j++ [k.from_,k.to]) True.intro)<|Mf<|n (f+1) (i+2) (j++ [k.from_,k.to])<|by exact ⟨by rw [dT,← q.1];rfl,by simp,by rw [q.2.2,Cx];simp⟩
theorem U8 (x y:Bool):kP 325 [.bool x, .bool y] (.bool (x || y)):=by
  have rr0 b' (h:(x || y)=b':=by simp only [aS,ax,bS, *]):=h;exact bg Tryz.func325<|Kb 2 x (fun a=>MV a<|Ky 0<|rr0 true) fun a=>Kw 0 a<|Ky 0<|rr0 y
theorem T5 (x y:Bool):kP 326 [.bool x, .bool y] (.bool (x && y)):=by
  have rr0 b' (h:(x && y)=b':=by simp only [aS,ax,bS, *]):=h;exact bg Tryz.func326<|Kb 2 x (fun a=>Ku 0 a<|Ky 0<|rr0 y) fun a=>My a<|Ky 0<|rr0 false
theorem NH (a b:List PSpan) (ha:a.length<2 ^ 30) (hb:b.length<2 ^ 30):kP 278 [.ls (a.map aK), .ls (b.map aK)] (.ls ((ru (· || ·) a b).map aK)):=by
  have h:=KN 325 (· || ·) U8 rfl a b ha hb
  exact bg Tryz.func278<|Kp 2 h<|Kf 0<|bV<|aW<|(ru (fun c d=>c || d) a b).map aK
theorem Pb (a b:List PSpan) (ha:a.length<2 ^ 30) (hb:b.length<2 ^ 30):kP 281 [.ls (a.map aK), .ls (b.map aK)] (.ls ((ru (· && ·) a b).map aK)):=by
  have h:=KN 326 (· && ·) T5 rfl a b ha hb
  exact bg Tryz.func281<|Kp 2 h<|Kf 0<|bV<|aW<|(ru (fun c d=>c && d) a b).map aK
noncomputable def oh (a:List PSpan) (d:Int):List PSpan:=ru (· && ·) a [⟨0,d⟩]
noncomputable def pg (a:List PSpan) (d:Int):List PSpan:=ru (· || ·) (oh a d) [⟨d,1048577⟩]
theorem rF (a:List PSpan) (d:Int):NrmS (oh a d):=yE _
theorem tD (a:List PSpan) (d:Int):NrmS (pg a d):=yE _
theorem Em (a:List PSpan) (d:Int) (ha:a.length<2 ^ 30):kP 216 [.ls (a.map aK),iV d] (.ls ((oh a d).map aK)):=by
  have h:kP 281 [.ls (a.map aK), .ps [aK ⟨0,d⟩] true] (.ls ((oh a d).map aK)):=(Pb a [⟨0,d⟩] ha (by simp)).onArgs (.cons (Le.refl _) (.cons (Le.ps _ _ rfl) .nil))
  exact bg Tryz.func216<|Kp 4 h<|Kf 0<|bV<|aW<|(oh a d).map aK
theorem QJ (a:List PSpan) (d:Int) (ha:a.length<2 ^ 30):kP 214 [.ls (a.map aK),iV d] (.ls ((pg a d).map aK)):=by
  have h0:=Em a d ha
  have hl:=(rF a d).len
  have h:kP 278 [.ls ((oh a d).map aK), .ps [aK ⟨d,1048577⟩] true] (.ls ((pg a d).map aK)):=(NH (oh a d) [⟨d,1048577⟩] (by omega) (by simp)).onArgs (.cons (Le.refl _) (.cons (Le.ps _ _ rfl) .nil))
  exact bg Tryz.func214<|Kp 2 h0<|Kp 2 h<|Kf 0<|bV<|aW<|(pg a d).map aK
noncomputable def rl (k:Int):Bool:=ab k 7 || ab k 9
noncomputable def ku (k:Int):Bool:=rl k || ab k 8
noncomputable def ry (k:Int):AV:=match rl k with | true=> .func (.func 214) [] [] | false=>match ab k 8 with | true=> .func (.func 216) [] [] | false=> .nilf
theorem yT (k:Int):eF (some .nilf) true (bx false 1 [(0,1)] (iV k) [⟨iV 7, .func (.func 214) [] [],0⟩,⟨iV 9, .func (.func 214) [] [],1⟩,⟨iV 8, .func (.func 216) [] [],2⟩] 0)=some (.tuple [ry k, .bool (ku k)]):=by
  unfold ry ku rl
  simp only [bx,qx,Ih,ka]
  cases h1:ab k 7 <;> cases h2:ab k 9 <;> cases h3:ab k 8 <;> rfl
theorem NO {k:Int} (h:rl k=true):Le (.func (.func 214) [] []) (ry k):=by unfold ry;rw [h];exact Le.refl _
theorem Rs {k:Int} (h:rl k=false) (h2:ku k=true):Le (.func (.func 216) [] []) (ry k):=by
  unfold ku at h2;rw [h,Bool.false_or] at h2
  unfold ry;rw [h,h2];exact Le.refl _
noncomputable def NP:List AEnt:= [⟨iV 7, .func (.func 214) [] [],0⟩,⟨iV 9, .func (.func 214) [] [],1⟩,⟨iV 8, .func (.func 216) [] [],2⟩]
theorem Rp (x:PItem):kD 119 [] (aa [.row 25 false 0 [eI x]]) (.map 1) (aa [.row 25 false 0 [eI x], .map NP 3]):=by
  exact fk Tryz.func119 fun a=>Kf 6 a
theorem Rr (s:PStart) (d o:PDeed):kD 119 [] (aa [.row 3 false 0 [an s], .row 28 false 0 [aJ d], .row 28 false 0 [aJ o]]) (.map 3) (aa [.row 3 false 0 [an s], .row 28 false 0 [aJ d], .row 28 false 0 [aJ o], .map NP 3]):=by
  exact fk Tryz.func119 fun a=>Kf 6 a
noncomputable def qB (x:PItem) (a i:Int):Bool:=ab x.act a && (match ab x.kind 11 with | true=>ab x.item i | false=>ku x.kind && (ab x.item i || ab x.item (-1)))
theorem Lh (x:PItem) (a i:Int):kP 120 [eI x,iV a,iV i] (.bool (qB x a i)):=by
  have hlk:=yT
  have rr0 b' (h:(qB x a i)=b':=by unfold qB;generalize ab x.act a=p1 at *;generalize ab x.kind 11=p2 at *;generalize ab x.item i=p3 at *;generalize ab x.item (-1)=p4 at *;generalize ku x.kind=p5 at *;simp only [aS,ax,bS, *]):=h;let q:= [aw [iV x.kind,aW (x.at_.map az),aW (x.to.map az),iV x.where_,iV x.nth_,iV x.unit.act,iV x.unit.item,iV x.unit.n,iV x.unit.kind,aj x.unit.label,aW (x.unit.head.map aQ),aW (x.unit.words.map aQ),aW (x.unit.kids.map aV),aW (x.old.map mM),aW (x.new.map mM),aj x.label,aj x.for_,iV x.start.kind,iV x.start.day,aj x.start.event,iV x.act,iV x.item,iV x.day,aj x.event,aW (x.by_.map MF)]];let q1:=bZ (bQ 214) [] [];exact bg Tryz.func120<|Kc 5 x.act a (fun _ _=>Ky 0<|rr0 false) fun _ _=>Kj 2 x.kind 11 (fun _ _=>Kf 4<|b9<|rr0<|ab x.item i) fun _ _=>M3 (.efx true (AV.map 1)<|aa [aZ 25 false 0 q,AObj.map [AEnt.mk (iV 7) q1 0,AEnt.mk (iV 9) q1 1,AEnt.mk (iV 8) (bZ (bQ 216) [] []) 2] 3]) (et rt ti) (et (aU<|some<|aZ 25 false 0 q) ti) (Rp x)<|K1 1 (.look<|cK [ry x.kind,eu<|ku x.kind]) (hlk x.kind)<|Kb 6 (ku x.kind) (fun b=>Kt 0 b<|Kt 0 b<|Kt 0 b<|Kt 0 b<|Kj 0 x.item i (fun c _=>Mt c<|Mt c<|Mt b<|MV c<|MV b<|Ky 0<|rr0 true) fun c _=>Kh 0 c<|Kh 0 c<|Kt 0 b<|My c<|MV b<|Kf 0<|b9<|rr0<|ab x.item (-1)) fun b=>Mh b<|Mh b<|Mh b<|Mh b<|Mh b<|My b<|Ky 0<|rr0 false
noncomputable abbrev gi (nm:aO):AObj:= .row 1 false 0 [.str nm]
noncomputable def rp (nm:aO) (d:PDeed):Bool:=ab d.it.kind 10 && dR d.it.event nm
theorem QV (nm:aO) (d:PDeed):kD 280 [aJ d, .ptr 0 0 0 0] (aa [gi nm]) (.bool (rp nm d)) (aa [gi nm]):=by
  let q:=aa [aZ 1 false 0 [aj nm]];exact Na Tryz.func280<|Kj 6 d.it.kind 10 (fun a _=>Kt 0 a<|Kt 0 a<|Kt 0 a<|Kt 0 a<|Ku 0 a<|K1 0 (.frz 1 [3]) (et rt ti)<|Mf<|et (by unfold rp;generalize ab d.it.kind 10=p1 at *;generalize dR d.it.event nm=p2 at *;simp only [aS,ax,bS, *]:(AV.bool (dR d.it.event nm))=(AV.bool (rp nm d)))<|aU q) fun a _=>Mh a<|Mh a<|Mh a<|Mh a<|My a<|K1 0 (.frz 1 [3]) (et rt ti)<|Mf<|et (by unfold rp;generalize ab d.it.kind 10=p1 at *;generalize dR d.it.event nm=p2 at *;simp only [aS,ax,bS, *]:(AV.bool false)=(AV.bool (rp nm d)))<|aU q
noncomputable def jJ (nm:aO):List PDeed→Nat→Int
  | [],_=> -1
  | d::r,i=>match rp nm d with | true=>Int.ofNat i | false=>jJ nm r (i+1)
theorem KQ (nm:aO) : ∀ (l:List PDeed) (i:Nat),jJ nm l i<Int.ofNat (i+l.length)∧(0≤jJ nm l i∨jJ nm l i = -1)
  | [],i=>⟨by simp only [jJ,oN];omega, .inr rfl⟩
  | d::r,i=>by
    have:=KQ nm r (i+1)
    cases h:rp nm d <;> simp only [jJ,h,oN,lC] at * <;> omega
theorem Xg {nm:aO} {d:PDeed} {r:List PDeed} {i:Nat} (h:rp nm d=true):jJ nm (d::r) i=Int.ofNat i:=by simp only [jJ,h]
theorem Xh {nm:aO} {d:PDeed} {r:List PDeed} {i:Nat} (h:rp nm d=false):jJ nm (d::r) i=jJ nm r (i+1):=by simp only [jJ,h]
theorem B0 (nm:aO) (l:List PDeed) (hl:l.length<2 ^ 40):kD 279 [.ls (l.map aJ), .func (.func 280) [] [.ptr 0 0 0 0]] (aa [gi nm]) (iV (jJ nm l 0)) (aa [gi nm]):=by
  let q:=aa [aZ 1 false 0 [aj nm]];exact Na Tryz.func279<|Kl 2 7 (ln aJ l)<|Mg 0<|rB aJ l [0,1,7,8] (fun a _=>([aW<|l.map aJ,bZ (bQ 280) [] [bJ 0 0 0 0],nV l.length,nV a],[aZ 1 false 0 [aj nm]])) (fun a=>jJ nm l (0:Nat)=jJ nm a (l.length - a.length)) (by (rw [Nat.sub_self])) (fun _ _ _ _ _ a b=>Kh 0 a<|Kf 0<|et (by (rw [b];rfl):(iV (-1))=(iV (jJ nm l 0)))<|aU q) fun a _ b _ c d e f g _ h i=>have :=iK b f;Kt 0 g<|Kx 4 h<|Ke 0 (QV nm c)<|Mb (rp nm c) (fun _=>Kf 1<|et (by (rw [i,Xg (by assumption)];congr 2;have z:=Hu (b.trans f) (by simp) (by simp only [lC];omega:(l.length - (d.length+1))+(c::d).length=l.length);exact z):(nV a)=(iV (jJ nm l 0)))<|aU q) fun _=>Kl 0 18 (dB a)<|Kf 0<|e<|by (rw [i,Xh (by assumption)];congr 1;have:=iK b f;simp only [lC];omega)
theorem QK (d:Int):kP 214 [.nils,iV d] (.ls ((pg [] d).map aK)):=(QJ [] d (by simp)).onArgs (.cons Le.nils (.cons (Le.refl _) .nil))
theorem Ic (nm:aO) (l:List PDeed) (hl:l.length<2 ^ 40) (h:ar (jJ nm l 0) 0=true):kP 215 [.str nm, .ls (l.map aJ)] (.tuple [iV 0, .bool false]):=by
  exact bg Tryz.func215<|Ke 4 (B0 nm l hl)<|Kt 2 h<|Kf 1<|bV<|cK [iV 0,eu false]
theorem Ie (nm:aO) (l:List PDeed) (hl:l.length<2 ^ 40) (h:ar (jJ nm l 0) 0=false):kP 215 [.str nm, .ls (l.map aJ)] (.tuple [iV (gD l (jJ nm l 0).toNat).it.day, .bool true]):=by
  have g1:=aF h
  have g2:=(KQ nm l 0).1
  exact bg Tryz.func215<|Ke 4 (B0 nm l hl)<|Kh 2 h<|Kl 1 13 (Aa (x:=jJ nm l 0) oA)<|Mx (aR aJ (by (simp only [oN,lM,lS] at *;omega):(jJ nm l 0).toNat<(l).length))<|Kf 4<|bV<|cK [iV (gD l (jJ nm l 0).toNat).it.day,eu true]
noncomputable def lX (s:PStart) (l:List PDeed):List PSpan:=match ab s.kind 1 with | true=>pg [] s.day | false=>match ab s.kind 3 with | true=>(match ar (jJ s.event l 0) 0 with | true=> [] | false=>pg [] (gD l (jJ s.event l 0).toNat).it.day) | false=> []
theorem L4 (s:PStart) (l:List PDeed) (hl:l.length<2 ^ 40) (hi:ar (jJ s.event l 0) 0=true):kP 117 [an s, .ls (l.map aJ)] (.ls ((lX s l).map aK)):=by
  have he:=Ic s.event l hl hi
  have e:lX s l=match ab s.kind 1 with | true=>pg [] s.day | false=> []:=(by unfold lX;rw [hi];cases ab s.kind 1 <;> cases ab s.kind 3 <;> rfl)
  rw [e]
  have rr0 b' (h:((match ab s.kind 1 with | true=>pg [] s.day | false=> []).map aK)=b':=by generalize ab s.kind 1=p1 at *;(rw [h0]);try rfl):=h;exact bg Tryz.func117<|Kj 5 s.kind 1 (fun h0 _=>Kp 1 (QK s.day)<|Kf 0<|cj<|rr0<|(pg [] s.day).map aK) fun h0 _=>Kj 1 s.kind 3 (fun _ _=>Kp 2 he<|Kf 7 (Le.lsn<|rr0 []:Le _ (ak))) fun _ _=>Kf 0 (Le.lsn<|rr0 []:Le _ (ak))
theorem L5 (s:PStart) (l:List PDeed) (hl:l.length<2 ^ 40) (hi:ar (jJ s.event l 0) 0=false):kP 117 [an s, .ls (l.map aJ)] (.ls ((lX s l).map aK)):=by
  have he:=Ie s.event l hl hi
  have e:lX s l=match ab s.kind 1 with | true=>pg [] s.day | false=>match ab s.kind 3 with | true=>pg [] (gD l (jJ s.event l 0).toNat).it.day | false=> []:=(by unfold lX;rw [hi])
  rw [e]
  have rr0 b' (h:((match ab s.kind 1 with | true=>pg [] s.day | false=>match ab s.kind 3 with | true=>pg [] (gD l (jJ s.event l 0).toNat).it.day | false=> []).map aK)=b':=by generalize ab s.kind 1=p1 at *;generalize ab s.kind 3=p3 at *;(rw [h0]);(first | rw [h1] | skip);try rfl):=h;exact bg Tryz.func117<|Kj 5 s.kind 1 (fun h0 _=>Kp 1 (QK s.day)<|Kf 0<|cj<|rr0<|(pg [] s.day).map aK) fun h0 _=>Kj 1 s.kind 3 (fun h1 _=>Kp 2 he<|Kp 7 (QK (gD l (jJ s.event l 0).toNat).it.day)<|Kf 0<|cj<|rr0<|(pg [] (gD l (jJ s.event l 0).toNat).it.day).map aK) fun h1 _=>Kf 0 (Le.lsn<|rr0 []:Le _ (ak))
theorem IV (s:PStart) (l:List PDeed) (hl:l.length<2 ^ 40):kP 117 [an s, .ls (l.map aJ)] (.ls ((lX s l).map aK)):=by
  cases hi:ar (jJ s.event l 0) 0
  · exact L5 s l hl hi
  · exact L4 s l hl hi
noncomputable def rN (d o:PDeed) (days:List PSpan):List PSpan:=match ku o.it.kind && qB o.it d.act d.item with | true=>(match rl o.it.kind with | true=>pg days o.it.day | false=>oh days o.it.day) | false=>days
noncomputable def lp (d:PDeed):List PDeed→List PSpan→List PSpan
  | [],days=>days
  | o::r,days=>lp d r (rN d o days)
noncomputable def dl (s:PStart) (d:PDeed) (l:List PDeed):List PSpan:=match ar d.it.kind 0 || ar 6 d.it.kind with | true=> [] | false=>lp d l (lX (effS s d.it.start) l)
theorem L6 (s:PStart) (l:List PDeed):(lX s l).length≤1048577:=by
  have h:=fun d=>(tD [] d).len
  unfold lX
  cases ab s.kind 1 <;> cases ab s.kind 3 <;> cases ar (jJ s.event l 0) 0 <;> simp only [lN] <;> first | exact h _ | omega
theorem mC (s:PStart) (d:PDeed) (l:List PDeed) (hl:l.length<2 ^ 40):kP 66 [an s,aJ d, .ls (l.map aJ)] (.ls ((dl s d l).map aK)):=by
  have hlk:=yT
  have hle1 : ∀ k,rl k=true→Le (.func (.func 214) [] []) (ry k):=fun k h=>NO h
  have hle2 : ∀ k,rl k=false→ku k=true→Le (.func (.func 216) [] []) (ry k):=fun k h h2=>Rs h h2
  have hil:=L6 (effS s d.it.start) l
  have hin : ∀ b,(ar d.it.kind 0 || ar 6 d.it.kind)=b→dl s d l=match b with | true=> [] | false=>lp d l (lX (effS s d.it.start) l):=fun b h=>by unfold dl;rw [h]
  have hst : ∀ (o:PDeed) (r:List PDeed) (days:List PSpan),lp d (o::r) days=lp d r (rN d o days):=fun o r days=>rfl
  have rr0 b' (h:((dl s d l).map aK)=b':=by first | (rw [hin true (by simp only [aS,ax,bS, *];try rfl)];rfl) | (rw [hin false (by simp only [aS,ax,bS, *];try rfl)];first | exact congrArg _ hj0.2 | exact congrArg _ hj0.2.symm | (rw [hj0.2];rfl))):=h;let q1:= [aw [iV d.act,iV d.item,iV d.day,iV d.it.kind,aW (d.it.at_.map az),aW (d.it.to.map az),iV d.it.where_,iV d.it.nth_,iV d.it.unit.act,iV d.it.unit.item,iV d.it.unit.n,iV d.it.unit.kind,aj d.it.unit.label,aW (d.it.unit.head.map aQ),aW (d.it.unit.words.map aQ),aW (d.it.unit.kids.map aV),aW (d.it.old.map mM),aW (d.it.new.map mM),aj d.it.label,aj d.it.for_,iV d.it.start.kind,iV d.it.start.day,aj d.it.start.event,iV d.it.act,iV d.it.item,iV d.it.day,aj d.it.event,aW (d.it.by_.map MF)]];let q2:= [aw [iV s.kind,iV s.day,aj s.event]];let q3:=bZ (bQ 214) [] [];exact bg Tryz.func66<|Ka 7 d.it.kind 0 (fun a _=>Mt a<|Mt a<|Mt a<|MV a<|Kf 1 (Le.lsn<|rr0 []:Le _ (ak))) fun a _=>Kh 0 a<|Kh 0 a<|Kh 0 a<|Kw 0 a<|Mb (ar 6 d.it.kind) (fun a=>have :=ap a;Kf 0 (Le.lsn<|rr0 []:Le _ (ak))) fun a=>have :=aF a;Kp 3 (Gi s d.it.start)<|Kp 0 (IV (effS s d.it.start) l hl)<|Kl 2 30 (ln aJ l)<|Mg 0<|Ut (0:Nat) l (lX (effS s d.it.start) l) [4,7,29,30,31] (fun a _ c=>([bJ 1 0 0 0,aW<|c.map aK,aW<|l.map aJ,nV l.length,nV a],[aZ 3 false 0 [aw [iV s.kind,iV s.day,aj s.event]],aZ 28 false 0 [aw [iV d.act,iV d.item,iV d.day,iV d.it.kind,aW<|d.it.at_.map az,aW<|d.it.to.map az,iV d.it.where_,iV d.it.nth_,iV d.it.unit.act,iV d.it.unit.item,iV d.it.unit.n,iV d.it.unit.kind,aj d.it.unit.label,aW<|d.it.unit.head.map aQ,aW<|d.it.unit.words.map aQ,aW<|d.it.unit.kids.map aV,aW<|d.it.old.map mM,aW<|d.it.new.map mM,aj d.it.label,aj d.it.for_,iV d.it.start.kind,iV d.it.start.day,aj d.it.start.event,iV d.it.act,iV d.it.item,iV d.it.day,aj d.it.event,aW<|d.it.by_.map MF]]])) (fun a c e=>(l).drop a=c∧e.length≤1048577∧lp d l (lX (effS s d.it.start) l)=lp d c e) (fun _ a _=>a.length) (et rfl<|by (exact ⟨hil,rfl⟩)) fun a c e f g=>Mc c (fun a=>have c:=gn f.1 a;have hj0:=je (J:=fun a c=>c.length≤1048577∧lp d l (lX (effS s d.it.start) l)=lp d a c) (a:=e) a f.2;Kh 0 c<|Kf 1<|cj<|rr0<|e.map aK) fun c i j=>let m:=[aw [iV c.act,iV c.item,iV c.day,iV c.it.kind,aW<|c.it.at_.map az,aW<|c.it.to.map az,iV c.it.where_,iV c.it.nth_,iV c.it.unit.act,iV c.it.unit.item,iV c.it.unit.n,iV c.it.unit.kind,aj c.it.unit.label,aW<|c.it.unit.head.map aQ,aW<|c.it.unit.words.map aQ,aW<|c.it.unit.kids.map aV,aW<|c.it.old.map mM,aW<|c.it.new.map mM,aj c.it.label,aj c.it.for_,iV c.it.start.kind,iV c.it.start.day,aj c.it.start.event,iV c.it.act,iV c.it.item,iV c.it.day,aj c.it.event,aW<|c.it.by_.map MF]];have n:=gp f.1 j;have :=ap n;have p:=gm (enc:=aJ) f.1 j;have hj0:=cP (J:=fun a c=>c.length≤1048577∧lp d l (lX (effS s d.it.start) l)=lp d a c) (a:=e) j f.2;Kt 0 n<|Mx p<|Mg 2<|M3 (.efx true (AV.map 3)<|aa [aZ 3 false 0 q2,aZ 28 false 0 q1,aZ 28 false 0 m,AObj.map [AEnt.mk (iV 7) q3 0,AEnt.mk (iV 9) q3 1,AEnt.mk (iV 8) (bZ (bQ 216) [] []) 2] 3]) (kq rt rt rt ti) (kq (aU<|some<|aZ 28 false 0 m) (aU<|some<|aZ 28 false 0 q1) (aU<|some<|aZ 3 false 0 q2) ti) (Rr s d c)<|K1 2 (.look<|cK [ry c.it.kind,eu<|ku c.it.kind]) (hlk c.it.kind)<|Kb 6 (ku c.it.kind) (fun m=>Kt 0 m<|Kt 0 m<|Kt 0 m<|Kt 0 m<|Kt 0 m<|Kt 0 m<|Mp (Lh c.it d.act d.item)<|MV m<|Mb (qB c.it d.act d.item) (fun _=>Ks 4 (rl c.it.kind) (fun m=>Ml 53 (hle1 c.it.kind m)<|Mp (QJ e c.it.day oA)<|Kl 1 59 (dB a)<|K1 0 (.frz 2 [4,7,29,30,31]) (cH rt rt ti)<|Mf<|g (a+1) i (pg e c.it.day) (et (bR f.1 j)<|by exact ⟨(tD _ _).len,by rw [hj0.2,hst];simp only [rN, *];rfl⟩)<|fI j) fun n=>Ml 53 (hle2 c.it.kind n m)<|Mp (Em e c.it.day oA)<|Kl 1 59 (dB a)<|K1 0 (.frz 2 [4,7,29,30,31]) (cH rt rt ti)<|Mf<|g (a+1) i (oh e c.it.day) (et (bR f.1 j)<|by exact ⟨(rF _ _).len,by rw [hj0.2,hst];simp only [rN, *];rfl⟩)<|fI j) fun _=>Kl 0 59 (dB a)<|K1 0 (.frz 2 [4,7,29,30,31]) (cH rt rt ti)<|Mf<|g (a+1) i e (et (bR f.1 j)<|by exact ⟨hj0.1,by rw [hj0.2,hst];simp only [rN,aS,ax,bS, *];try rfl⟩)<|fI j) fun c=>Mh c<|Mh c<|Mh c<|Mh c<|Mh c<|Mh c<|My c<|Kl 1 59 (dB a)<|K1 0 (.frz 2 [4,7,29,30,31]) (cH rt rt ti)<|Mf<|g (a+1) i e (et (bR f.1 j)<|by exact ⟨hj0.1,by rw [hj0.2,hst];simp only [rN,aS,ax,bS, *];try rfl⟩)<|fI j
noncomputable abbrev iC (d:Int):AObj:= .row 1 false 0 [iV d]
noncomputable abbrev qY:AObj:= .row 1 false 0 [.nils]
noncomputable abbrev ph (i ep n:Nat):AObj:= .row 1 false 0 [.slice i ep 0 n none]
noncomputable abbrev dq (m:List (Int × PStart)):AObj:= .map (bH an m 0) m.length
noncomputable abbrev gg (d:PDeed):AObj:= .row 28 false 0 [aJ d]
noncomputable abbrev ic (ep:Nat) (l:List PDeed):AObj:= .row 28 true ep (l.map aJ)
def dA:PStart:=⟨0,0, []⟩
def dX (m:List (Int × PStart)) (k:Int):PStart:=(gy k m).getD dA
theorem y6 (m:List (Int × PStart)) (k:Int):eF (some (.agg [iV 0,iV 0, .str []])) false (bx false 1 [(0,1)] (iV k) (bH an m 0) 0)=some (an (dX m k)):=by
  rw [y8]
  cases h:gy k m <;> simp only [dX,h,Option.getD] <;> rfl
theorem BU (m:List (Int × PStart)) (a:PAct):rz (bH an m 0) m.length (iV a.number) (.agg [iV a.start.kind,iV a.start.day, .str a.start.event]) (bx false 1 [(0,1)] (iV a.number) (bH an m 0) 0)=some (bH an (kn a.number a.start m) 0,(kn a.number a.start m).length):=Bq (f:=an) a.number a.start m
/-- The starts of the acts by their numbers. -/
def xU (l:List PAct) (m:List (Int × PStart)):List (Int × PStart):=l.foldl (fun m a=>kn a.number a.start m) m
theorem FG (s:PStart) (d:PDeed) (l:List PDeed):NrmS (dl s d l):=by
  have h1 : ∀ (s:PStart),NrmS (lX s l):=fun s=>by
    unfold lX
    cases ab s.kind 1 <;> cases ab s.kind 3 <;> cases ar (jJ s.event l 0) 0 <;> first | exact xa | exact tD _ _
  have h2 : ∀ (r:List PDeed) (days:List PSpan),NrmS days→NrmS (lp d r days):=by
    intro r
    induction r with
    | nil=>intro days h;exact h
    | cons o r ih=>
      intro days h
      refine ih _ ?_
      unfold rN
      cases ku o.it.kind && qB o.it d.act d.item <;> cases rl o.it.kind <;> first | exact h | exact tD _ _ | exact rF _ _
  unfold dl
  cases ar d.it.kind 0 || ar 6 d.it.kind
  · exact h2 l _ (h1 _)
  · exact xa
theorem sy (s:PStart) (d:PDeed) (l:List PDeed) (day:Int):kP 41 [.ls ((dl s d l).map aK),iV day] (.bool (ie (dl s d l) day)):=by
  have hn:=FG s d l
  have h:=GB (dl s d l) day (nG hn.len (by decide))
  rwa [show iT (dl s d l)=dl s d l from (Sy hn).symm] at h
/-- Whether an amendment is told: its purpose, its days. -/
noncomputable def VH (p:aO) (d:PDeed):Bool:=dR d.it.for_ [] || dR d.it.for_ p
noncomputable def Bs (day:Int) (p:aO) (m:List (Int × PStart)) (ds:List PDeed) (d:PDeed):Bool:=VH p d && ie (dl (dX m d.act) d ds) day
noncomputable def rh (day:Int) (p:aO) (m:List (Int × PStart)) (ds l:List PDeed):List PDeed:=l.filter fun d=>fp d.it.kind && Bs day p m ds d
theorem Ya (d:PDeed) (ss:List PSpan) (day:Int) (p:aO) (m:List (Int × PStart)) (hc:kP 41 [.ls (ss.map aK),iV day] (.bool false)):kD 40 [aJ d, .ls (ss.map aK), .ptr 1 0 0 0, .ptr 0 0 0 0, .ptr 2 0 0 0] (aa [iC day,gi p,qY,dq m,gg d]) (.tuple []) (aa [iC day,gi p,qY,dq m,gg d]):=by
  exact fk Tryz.func40 fun a=>Kb 5 (dR d.it.for_ (ByteArray.mk #[]).data.toList) (fun b=>Mt b<|Mt b<|Mt b<|Mt b<|MV b<|Kp 2 hc<|K1 1 (.frz 5 []) (xm rt (tM m.length 5<|aB (f:=an) (fun _=>rfl) m 0) rt rt rt ti)<|Mf a) fun b=>Kh 0 b<|Kh 0 b<|Kh 0 b<|Kh 0 b<|Kw 0 b<|Kb 0 (dR d.it.for_ p) (fun b=>Kt 0 b<|Kt 0 b<|Mp hc<|MV b<|K1 0 (.frz 5 []) (xm rt (tM m.length 5<|aB (f:=an) (fun _=>rfl) m 0) rt rt rt ti)<|Mf a) fun b=>Mh b<|Mh b<|My b<|K1 0 (.frz 5 []) (xm rt (tM m.length 5<|aB (f:=an) (fun _=>rfl) m 0) rt rt rt ti)<|Mf a
theorem Yy (d:PDeed) (ss:List PSpan) (day:Int) (p:aO) (m:List (Int × PStart)) (h1:dR d.it.for_ []=false) (h2:dR d.it.for_ p=false):kD 40 [aJ d, .ls (ss.map aK), .ptr 1 0 0 0, .ptr 0 0 0 0, .ptr 2 0 0 0] (aa [iC day,gi p,qY,dq m,gg d]) (.tuple []) (aa [iC day,gi p,qY,dq m,gg d]):=by
  exact fk Tryz.func40 fun a=>Kh 5 h1<|Kh 0 h1<|Kh 0 h1<|Kh 0 h1<|Kh 0 h1<|Kw 0 h1<|Kh 0 h2<|Mh h2<|Mh h2<|My h2<|K1 0 (.frz 5 []) (xm rt (tM m.length 5<|aB (f:=an) (fun _=>rfl) m 0) rt rt rt ti)<|Mf a
theorem Yv (d:PDeed) (ss:List PSpan) (day:Int) (p:aO) (m:List (Int × PStart)) (hc:kP 41 [.ls (ss.map aK),iV day] (.bool true)) (h1:dR d.it.for_ []=true):kD 40 [aJ d, .ls (ss.map aK), .ptr 1 0 0 0, .ptr 0 0 0 0, .ptr 2 0 0 0] (aa [iC day,gi p,qY,dq m,gg d]) (.tuple []) (aa [iC day,gi p,ph 5 0 1,dq m,gg d,ic 0 [d]]):=by
  exact fk Tryz.func40 fun a=>Kt 5 h1<|Mt h1<|Mt h1<|Mt h1<|Mt h1<|MV h1<|Kp 2 hc<|K1 6 (.ren [0,1,2,3,4,6,5] [3] []) (tN m.length<|aB (f:=an) (fun _=>rfl) m 0)<|M1 (.frz 6 []) (MB rt rt (tM m.length 6<|aB (f:=an) (fun _=>rfl) m 0) rt rt rt ti)<|Mf a
theorem Yw (d:PDeed) (ss:List PSpan) (day:Int) (p:aO) (m:List (Int × PStart)) (hc:kP 41 [.ls (ss.map aK),iV day] (.bool true)) (h1:dR d.it.for_ []=false) (h2:dR d.it.for_ p=true):kD 40 [aJ d, .ls (ss.map aK), .ptr 1 0 0 0, .ptr 0 0 0 0, .ptr 2 0 0 0] (aa [iC day,gi p,qY,dq m,gg d]) (.tuple []) (aa [iC day,gi p,ph 5 0 1,dq m,gg d,ic 0 [d]]):=by
  exact fk Tryz.func40 fun a=>Kh 5 h1<|Kh 0 h1<|Kh 0 h1<|Kh 0 h1<|Kh 0 h1<|Kw 0 h1<|Kt 0 h2<|Kt 0 h2<|Kt 0 h2<|Mp hc<|MV h2<|K1 5 (.ren [0,1,2,3,4,6,5] [3] []) (tN m.length<|aB (f:=an) (fun _=>rfl) m 0)<|M1 (.frz 6 []) (MB rt rt (tM m.length 6<|aB (f:=an) (fun _=>rfl) m 0) rt rt rt ti)<|Mf a
theorem Yk (d:PDeed) (ss:List PSpan) (day:Int) (p:aO) (m:List (Int × PStart)) (ep n:Nat) (out:List PDeed) (hc:kP 41 [.ls (ss.map aK),iV day] (.bool false)):kD 40 [aJ d, .ls (ss.map aK), .ptr 1 0 0 0, .ptr 0 0 0 0, .ptr 2 0 0 0] (aa [iC day,gi p,ph 4 ep n,dq m,ic ep out,gg d]) (.tuple []) (aa [iC day,gi p,ph 4 ep n,dq m,ic ep out,gg d]):=by
  exact fk Tryz.func40 fun a=>Kb 5 (dR d.it.for_ (ByteArray.mk #[]).data.toList) (fun b=>Mt b<|Mt b<|Mt b<|Mt b<|MV b<|Kp 2 hc<|K1 1 (.frz 6 []) (MB rt (tR 28 true ep 6<|aX wb out) (tM m.length 6<|aB (f:=an) (fun _=>rfl) m 0) rt rt rt ti)<|Mf a) fun b=>Kh 0 b<|Kh 0 b<|Kh 0 b<|Kh 0 b<|Kw 0 b<|Kb 0 (dR d.it.for_ p) (fun b=>Kt 0 b<|Kt 0 b<|Mp hc<|MV b<|K1 0 (.frz 6 []) (MB rt (tR 28 true ep 6<|aX wb out) (tM m.length 6<|aB (f:=an) (fun _=>rfl) m 0) rt rt rt ti)<|Mf a) fun b=>Mh b<|Mh b<|My b<|K1 0 (.frz 6 []) (MB rt (tR 28 true ep 6<|aX wb out) (tM m.length 6<|aB (f:=an) (fun _=>rfl) m 0) rt rt rt ti)<|Mf a
theorem Yj (d:PDeed) (ss:List PSpan) (day:Int) (p:aO) (m:List (Int × PStart)) (ep n:Nat) (out:List PDeed) (h1:dR d.it.for_ []=false) (h2:dR d.it.for_ p=false):kD 40 [aJ d, .ls (ss.map aK), .ptr 1 0 0 0, .ptr 0 0 0 0, .ptr 2 0 0 0] (aa [iC day,gi p,ph 4 ep n,dq m,ic ep out,gg d]) (.tuple []) (aa [iC day,gi p,ph 4 ep n,dq m,ic ep out,gg d]):=by
  exact fk Tryz.func40 fun a=>Kh 5 h1<|Kh 0 h1<|Kh 0 h1<|Kh 0 h1<|Kh 0 h1<|Kw 0 h1<|Kh 0 h2<|Mh h2<|Mh h2<|My h2<|K1 0 (.frz 6 []) (MB rt (tR 28 true ep 6<|aX wb out) (tM m.length 6<|aB (f:=an) (fun _=>rfl) m 0) rt rt rt ti)<|Mf a
theorem Yx (d:PDeed) (ss:List PSpan) (day:Int) (p:aO) (m:List (Int × PStart)) (ep n:Nat) (out:List PDeed) (hn:n=out.length) (hn2:n<2 ^ 20) (hc:kP 41 [.ls (ss.map aK),iV day] (.bool true)) (h1:dR d.it.for_ []=true):kD 40 [aJ d, .ls (ss.map aK), .ptr 1 0 0 0, .ptr 0 0 0 0, .ptr 2 0 0 0] (aa [iC day,gi p,ph 4 ep n,dq m,ic ep out,gg d]) (.tuple []) (aa [iC day,gi p,ph 4 (ep+1) (n+1),dq m,ic (ep+1) (out++ [d]),gg d]):=by
  exact fk Tryz.func40 fun a=>Kt 5 h1<|Mt h1<|Mt h1<|Mt h1<|Mt h1<|MV h1<|Kp 2 hc<|K1 4 .app (cH (aU ep) (by (rw [lM];exact hn):n=(out.map aJ).length) (by exact eV (m:=2 ^ 21) (by omega) (by decide) (by decide):small (n+1) 392=true))<|M1 (.obj 4<|aZ 28 true (ep+1)<|(out++ [d]).map aJ) (congrArg (aZ 28 true<|ep+1)<|dr (f:=aJ) (l:=out) (ws:=[d]))<|K1 0 (.frz 6 []) (MB rt (tR 28 true (ep+1) 6<|aX wb<|out++ [d]) (tM m.length 6<|aB (f:=an) (fun _=>rfl) m 0) rt rt rt ti)<|Mf a
theorem Yz (d:PDeed) (ss:List PSpan) (day:Int) (p:aO) (m:List (Int × PStart)) (ep n:Nat) (out:List PDeed) (hn:n=out.length) (hn2:n<2 ^ 20) (hc:kP 41 [.ls (ss.map aK),iV day] (.bool true)) (h1:dR d.it.for_ []=false) (h2:dR d.it.for_ p=true):kD 40 [aJ d, .ls (ss.map aK), .ptr 1 0 0 0, .ptr 0 0 0 0, .ptr 2 0 0 0] (aa [iC day,gi p,ph 4 ep n,dq m,ic ep out,gg d]) (.tuple []) (aa [iC day,gi p,ph 4 (ep+1) (n+1),dq m,ic (ep+1) (out++ [d]),gg d]):=by
  exact fk Tryz.func40 fun a=>Kh 5 h1<|Kh 0 h1<|Kh 0 h1<|Kh 0 h1<|Kh 0 h1<|Kw 0 h1<|Kt 0 h2<|Kt 0 h2<|Kt 0 h2<|Mp hc<|MV h2<|K1 3 .app (cH (aU ep) (by (rw [lM];exact hn):n=(out.map aJ).length) (by exact eV (m:=2 ^ 21) (by omega) (by decide) (by decide):small (n+1) 392=true))<|M1 (.obj 4<|aZ 28 true (ep+1)<|(out++ [d]).map aJ) (congrArg (aZ 28 true<|ep+1)<|dr (f:=aJ) (l:=out) (ws:=[d]))<|K1 0 (.frz 6 []) (MB rt (tR 28 true (ep+1) 6<|aX wb<|out++ [d]) (tM m.length 6<|aB (f:=an) (fun _=>rfl) m 0) rt rt rt ti)<|Mf a
theorem Uw {day:Int} {p:aO} {m:List (Int × PStart)} {ds:List PDeed} {d:PDeed} (h:Bs day p m ds d=false):kP 41 [.ls ((dl (dX m d.act) d ds).map aK),iV day] (.bool false)∨(dR d.it.for_ []=false∧dR d.it.for_ p=false):=by
  unfold Bs VH at h
  have hz:=sy (dX m d.act) d ds day
  cases q:ie (dl (dX m d.act) d ds) day with
  | false=>rw [q] at hz;exact .inl hz
  | true=>rw [q,Bool.and_true,A7] at h;exact .inr h
theorem OB {day:Int} {p:aO} {m:List (Int × PStart)} {ds:List PDeed} {d:PDeed} (h:Bs day p m ds d=true):kP 41 [.ls ((dl (dX m d.act) d ds).map aK),iV day] (.bool true)∧(dR d.it.for_ []=true∨(dR d.it.for_ []=false∧dR d.it.for_ p=true)):=by
  unfold Bs VH at h
  obtain ⟨h1,h2⟩:=nF.1 h
  have hz:=sy (dX m d.act) d ds day
  rw [h2] at hz
  refine ⟨hz,?_⟩
  cases q:dR d.it.for_ [] with
  | true=>exact .inl rfl
  | false=>rw [q,Bool.false_or] at h1;exact .inr ⟨rfl,h1⟩
theorem Xq (day:Int) (p:aO) (m:List (Int × PStart)) (ds:List PDeed) (d:PDeed) (hb:Bs day p m ds d=false):kD 40 [aJ d, .ls ((dl (dX m d.act) d ds).map aK), .ptr 1 0 0 0, .ptr 0 0 0 0, .ptr 2 0 0 0] (aa [iC day,gi p,qY,dq m,gg d]) (.tuple []) (aa [iC day,gi p,qY,dq m,gg d]):=by
  rcases Uw hb with h | ⟨h1,h2⟩
  · exact Ya d _ day p m h
  · exact Yy d _ day p m h1 h2
theorem Ye (day:Int) (p:aO) (m:List (Int × PStart)) (ds:List PDeed) (d:PDeed) (hb:By (Bs day p m ds d) false):kD 40 [aJ d, .ls ((dl (dX m d.act) d ds).map aK), .ptr 1 0 0 0, .ptr 0 0 0 0, .ptr 2 0 0 0] (aa [iC day,gi p,qY,dq m,gg d]) (.tuple []) (aa [iC day,gi p,qY,dq m,gg d]):=Xq day p m ds d hb
theorem Yd (day:Int) (p:aO) (m:List (Int × PStart)) (ds:List PDeed) (d:PDeed) (hb:By (Bs day p m ds d) true):kD 40 [aJ d, .ls ((dl (dX m d.act) d ds).map aK), .ptr 1 0 0 0, .ptr 0 0 0 0, .ptr 2 0 0 0] (aa [iC day,gi p,qY,dq m,gg d]) (.tuple []) (aa [iC day,gi p,ph 5 0 1,dq m,gg d,ic 0 [d]]):=by
  obtain ⟨h,h1 | ⟨h1,h2⟩⟩:=OB hb
  · exact Yv d _ day p m h h1
  · exact Yw d _ day p m h h1 h2
theorem Yc (day:Int) (p:aO) (m:List (Int × PStart)) (ds:List PDeed) (d:PDeed) (ep n:Nat) (out:List PDeed) (hb:By (Bs day p m ds d) false):kD 40 [aJ d, .ls ((dl (dX m d.act) d ds).map aK), .ptr 1 0 0 0, .ptr 0 0 0 0, .ptr 2 0 0 0] (aa [iC day,gi p,ph 4 ep n,dq m,ic ep out,gg d]) (.tuple []) (aa [iC day,gi p,ph 4 ep n,dq m,ic ep out,gg d]):=by
  rcases Uw hb with h | ⟨h1,h2⟩
  · exact Yk d _ day p m ep n out h
  · exact Yj d _ day p m ep n out h1 h2
theorem Yb (day:Int) (p:aO) (m:List (Int × PStart)) (ds:List PDeed) (d:PDeed) (ep n:Nat) (out:List PDeed) (hb:By (Bs day p m ds d) true) (hn:n=out.length) (hn2:n<2 ^ 20):kD 40 [aJ d, .ls ((dl (dX m d.act) d ds).map aK), .ptr 1 0 0 0, .ptr 0 0 0 0, .ptr 2 0 0 0] (aa [iC day,gi p,ph 4 ep n,dq m,ic ep out,gg d]) (.tuple []) (aa [iC day,gi p,ph 4 (ep+1) (n+1),dq m,ic (ep+1) (out++ [d]),gg d]):=by
  obtain ⟨h,h1 | ⟨h1,h2⟩⟩:=OB hb
  · exact Yx d _ day p m ep n out hn hn2 h h1
  · exact Yz d _ day p m ep n out hn hn2 h h1 h2
theorem OE {day:Int} {p:aO} {m:List (Int × PStart)} {ds r:List PDeed} {d:PDeed} (h:fp d.it.kind=false):rh day p m ds (d::r)=rh day p m ds r:=by simp only [rh,List.filter_cons,h,Bool.false_and];rfl
theorem OD {day:Int} {p:aO} {m:List (Int × PStart)} {ds r:List PDeed} {d:PDeed} (h:Bs day p m ds d=false):rh day p m ds (d::r)=rh day p m ds r:=by simp only [rh,List.filter_cons,h,xH];rfl
theorem OC {day:Int} {p:aO} {m:List (Int × PStart)} {ds r:List PDeed} {d:PDeed} (h:fp d.it.kind=true) (h2:Bs day p m ds d=true):rh day p m ds (d::r)=d::rh day p m ds r:=by simp only [rh,List.filter_cons,h,h2];rfl
structure OnA (day:Int) (p:aO) (m:List (Int × PStart)) (ds r:List PDeed):Prop where
  f:rh day p m ds ds=rh day p m ds r
structure OnR (day:Int) (p:aO) (m:List (Int × PStart)) (ds r:List PDeed) (ep n:Nat) (out:List PDeed):Prop where
  len:n=out.length
  ep:ep+1=out.length
  small:out.length+r.length≤ds.length
  f:rh day p m ds ds=out++rh day p m ds r
theorem OnA.no {day:Int} {p:aO} {m:List (Int × PStart)} {ds r:List PDeed} {d:PDeed} (h:OnA day p m ds (d::r)) (ha:fp d.it.kind=false):OnA day p m ds r:=⟨by rw [h.f,OE ha]⟩
theorem OnA.nil {day:Int} {p:aO} {m:List (Int × PStart)} {ds r:List PDeed} {d:PDeed} (h:OnA day p m ds (d::r)) (hb:Bs day p m ds d=false):OnA day p m ds r:=⟨by rw [h.f,OD hb]⟩
theorem OnA.new {day:Int} {p:aO} {m:List (Int × PStart)} {ds r:List PDeed} {d:PDeed} {n:Nat} (h:OnA day p m ds (d::r)) (hl:(d::r).length≤ds.length) (ha:fp d.it.kind=true) (hb:Bs day p m ds d=true) (hn:n=1):OnR day p m ds r 0 n [d]:=⟨hn,rfl,by simp only [lC,lN] at *;omega,by rw [h.f,OC ha hb];rfl⟩
theorem OnR.no {day:Int} {p:aO} {m:List (Int × PStart)} {ds r:List PDeed} {d:PDeed} {ep n:Nat} {out:List PDeed} (h:OnR day p m ds (d::r) ep n out) (ha:fp d.it.kind=false):OnR day p m ds r ep n out:=⟨h.len,h.ep,by have:=h.small;simp only [lC] at this;omega,by rw [h.f,OE ha]⟩
theorem OnR.nil {day:Int} {p:aO} {m:List (Int × PStart)} {ds r:List PDeed} {d:PDeed} {ep n:Nat} {out:List PDeed} (h:OnR day p m ds (d::r) ep n out) (hb:Bs day p m ds d=false):OnR day p m ds r ep n out:=⟨h.len,h.ep,by have:=h.small;simp only [lC] at this;omega,by rw [h.f,OD hb]⟩
theorem OnR.new {day:Int} {p:aO} {m:List (Int × PStart)} {ds r:List PDeed} {d:PDeed} {ep n k:Nat} {out:List PDeed} (h:OnR day p m ds (d::r) ep n out) (ha:fp d.it.kind=true) (hb:Bs day p m ds d=true) (hk:k=n+1):OnR day p m ds r (ep+1) k (out++ [d]):=by
  have:=h.len;have:=h.ep;have:=h.small
  refine ⟨?_,?_,?_,by rw [h.f,OC ha hb,pF];rfl⟩ <;> simp only [lA,lC,lN] at * <;> omega
theorem OnR.done {day:Int} {p:aO} {m:List (Int × PStart)} {ds:List PDeed} {ep n:Nat} {out:List PDeed} (h:OnR day p m ds [] ep n out):ep=(rh day p m ds ds).length - 1∧n=(rh day p m ds ds).length∧out=rh day p m ds ds:=by
  have e:rh day p m ds ds=out:=by rw [h.f];exact ed _
  have:=h.len;have:=h.ep
  rw [e];exact ⟨by omega,by omega,rfl⟩
theorem U1 {α:Type} {l r:List α} {j:Nat} {a:α} (h:l.drop j=a::r):(a::r).length≤l.length:=by rw [← h,xD];omega
theorem Uv {day:Int} {p:aO} {m:List (Int × PStart)} {ds r:List PDeed} {d:PDeed} (h:rh day p m ds (d::r) = []) (ha:fp d.it.kind=true):Bs day p m ds d=false:=by
  cases q:Bs day p m ds d with
  | false=>rfl
  | true=>rw [OC ha q] at h;cases h
theorem WJ (gs:List PGaz) (L:List PAct) (ds:List PDeed) (day:Int) (p:aO) (hL:L.length<10000) (hd:ds.length<100000) (ha:kP 63 [.ls (gs.map ao)] (.ls (L.map ay))) (hi:kP 64 [.ls (gs.map ao)] (.ls (ds.map aJ))) (hE:rh day p (xU L []) ds ds = []) :
    kD 39 [.ls (gs.map ao), .func (.func 40) [] [.ptr 1 0 0 0, .ptr 0 0 0 0, .ptr 2 0 0 0]] (aa [iC day,gi p,qY]) (.tuple []) (aa [iC day,gi p,qY]):=by
  have hlk:=y6
  have hup:=BU
  let q1:= [iV day];exact fk Tryz.func39 fun a=>Kp 2 ha<|Kl 0 13 (ln ay L)<|Mg 0<|Ng ay L ([]:List (Int × PStart)) [0,1,4,12,13,14] (fun a _ b=>([aW<|gs.map ao,bZ (bQ 40) [] [bJ 1 0 0 0,bJ 0 0 0 0,bJ 2 0 0 0],AV.map 3,aW<|L.map ay,nV L.length,nV a],[aZ 1 false 0 [iV day],aZ 1 false 0 [aj p],aZ 1 false 0 [ak],AObj.map (bH an b 0) b.length])) (fun a b=>xU L []=xU a b) (by rfl) (fun _ _ b _ _ _ c d=>Kh 0 c<|Kp 0 hi<|Kl 2 27 (ln aJ ds)<|Mg 0<|Ut (0:Nat) ds () [1,4,7,26,27,28] (fun a _ _=>([bZ (bQ 40) [] [bJ 1 0 0 0,bJ 0 0 0 0,bJ 2 0 0 0],AV.map 3,aW<|ds.map aJ,aW<|ds.map aJ,nV ds.length,nV a],[aZ 1 false 0 [iV day],aZ 1 false 0 [aj p],aZ 1 false 0 [ak],AObj.map (bH an b 0) b.length])) (fun a c _=>(ds).drop a=c∧rh day p b ds c= []) (fun _ a _=>a.length) (et rfl<|by (rw [← show xU L []=b from d];exact hE)) fun c d e f g=>Mc d (fun c=>have d:=gn f.1 c;have :=je (J:=fun a _=>rh day p b ds a= []) (a:=e) c f.2;Kh 0 d<|M1 (.frz 3 []) (kq rt rt rt ti)<|Mf a) fun a d h=>let i:=[aw [iV a.act,iV a.item,iV a.day,iV a.it.kind,aW<|a.it.at_.map az,aW<|a.it.to.map az,iV a.it.where_,iV a.it.nth_,iV a.it.unit.act,iV a.it.unit.item,iV a.it.unit.n,iV a.it.unit.kind,aj a.it.unit.label,aW<|a.it.unit.head.map aQ,aW<|a.it.unit.words.map aQ,aW<|a.it.unit.kids.map aV,aW<|a.it.old.map mM,aW<|a.it.new.map mM,aj a.it.label,aj a.it.for_,iV a.it.start.kind,iV a.it.start.day,aj a.it.start.event,iV a.it.act,iV a.it.item,iV a.it.day,aj a.it.event,aW<|a.it.by_.map MF]];have j:=gp f.1 h;have :=ap j;have k:=gm (enc:=aJ) f.1 h;have e:=cP (J:=fun a _=>rh day p b ds a= []) (a:=e) h f.2;Kt 0 j<|Mx k<|Kp 5 (mS a.it.kind)<|Mb (fp a.it.kind) (fun _=>K1 4 (.look<|aw [iV (dX b a.act).kind,iV (dX b a.act).day,aj (dX b a.act).event]) (hlk b a.act)<|Kp 1 (mC (dX b a.act) a ds<|by (omega))<|M3 (.efx true (cK [])<|aa [aZ 1 false 0 q1,aZ 1 false 0 [aj p],aZ 1 false 0 [ak],AObj.map (bH an b 0) b.length,aZ 28 false 0 i]) (xm rt (tM b.length 5<|aB (f:=an) (fun _=>rfl) b 0) rt rt rt ti) (xm (aU<|some<|aZ 28 false 0 i) (aU<|some<|AObj.map (bH an b 0) b.length) (aU<|some<|aZ 1 false 0 [ak]) (aU<|some<|aZ 1 false 0 [aj p]) (aU<|some<|aZ 1 false 0 q1) ti) (Xq day p b ds a<|by exact Uv e (by assumption))<|Kl 0 46 (dB c)<|K1 0 (.frz 4 [1,4,7,26,27,28]) (HK (tM b.length 4<|aB (f:=an) (fun _=>rfl) b 0) rt rt rt ti)<|Mf<|g (c+1) d () (et (bR f.1 h)<|by (have z:=e;rw [OD (Uv z (by assumption))] at z;exact z))<|fI h) fun _=>Kl 0 46 (dB c)<|K1 0 (.frz 4 [1,4,7,26,27,28]) (HK (tM b.length 4<|aB (f:=an) (fun _=>rfl) b 0) rt rt rt ti)<|Mf<|g (c+1) d () (et (bR f.1 h)<|by (have z:=e;rw [OE (by assumption)] at z;exact z))<|fI h) fun a _ b _ _ c d e _ f _ g h=>Kt 0 f<|Mx g<|K1 7 (.upd (bH an (kn c.number c.start b) 0) (kn c.number c.start b).length) (hup b c)<|Kl 0 23 (dB a)<|K1 0 (.frz 4 [0,1,4,12,13,14]) (HK (tM (kn c.number c.start b).length 4<|aB (f:=an) (fun _=>rfl) (kn c.number c.start b) 0) rt rt rt ti)<|Mf<|e (kn c.number c.start b)<|by exact h
def GL (gs:List PGaz) (L:List PAct) (day:Int) (p:aO) (x0:Nat × List PAct × List (Int × PStart)):Prop:=(L).drop x0.1=x0.2.1∧xU L []=xU x0.2.1 x0.2.2
noncomputable def wl (gs:List PGaz) (L:List PAct) (day:Int) (p:aO) (x0:Nat × List PAct × List (Int × PStart)):List AV × List AObj:=([AV.ls (gs.map ao),AV.func (Fn.func 40) [] [AV.ptr 1 0 0 0,AV.ptr 0 0 0 0,AV.ptr 2 0 0 0],AV.map 3,AV.ls (L.map ay),nV L.length,nV x0.1], [AObj.row 1 false 0 [iV day],AObj.row 1 false 0 [AV.str p],AObj.row 1 false 0 [AV.nils],AObj.map (bH an x0.2.2 0) x0.2.2.length])
def GI (ds:List PDeed) (day:Int) (p:aO) (x0:Nat × List PAct × List (Int × PStart)) (x1:Nat × List PDeed × Unit):Prop:=(ds).drop x1.1=x1.2.1∧OnA day p x0.2.2 ds x1.2.1
noncomputable def wi (ds:List PDeed) (day:Int) (p:aO) (x0:Nat × List PAct × List (Int × PStart)) (x1:Nat × List PDeed × Unit):List AV × List AObj:=([AV.func (Fn.func 40) [] [AV.ptr 1 0 0 0,AV.ptr 0 0 0 0,AV.ptr 2 0 0 0],AV.map 3,AV.ls (ds.map aJ),AV.ls (ds.map aJ),nV ds.length,nV x1.1], [AObj.row 1 false 0 [iV day],AObj.row 1 false 0 [AV.str p],AObj.row 1 false 0 [AV.nils],AObj.map (bH an x0.2.2 0) x0.2.2.length])
def GH (ds:List PDeed) (day:Int) (p:aO) (x0:Nat × List PAct × List (Int × PStart)) (x1:Nat × List PDeed × Nat × Nat × List PDeed):Prop:=(ds).drop x1.1=x1.2.1∧OnR day p x0.2.2 ds x1.2.1 x1.2.2.1 x1.2.2.2.1 x1.2.2.2.2
noncomputable def GG (ds:List PDeed) (day:Int) (p:aO) (x0:Nat × List PAct × List (Int × PStart)) (x1:Nat × List PDeed × Nat × Nat × List PDeed):List AV × List AObj:=([AV.func (Fn.func 40) [] [AV.ptr 1 0 0 0,AV.ptr 0 0 0 0,AV.ptr 2 0 0 0],AV.map 3,AV.ls (ds.map aJ),AV.ls (ds.map aJ),nV ds.length,nV x1.1], [AObj.row 1 false 0 [iV day],AObj.row 1 false 0 [AV.str p],AObj.row 1 false 0 [AV.slice 4 x1.2.2.1 0 x1.2.2.2.1 none],AObj.map (bH an x0.2.2 0) x0.2.2.length,AObj.row 28 true x1.2.2.1 (x1.2.2.2.2.map aJ)])
theorem WW (gs:List PGaz) (L:List PAct) (ds:List PDeed) (day:Int) (p:aO) (hL:L.length<10000) (hd:ds.length<100000) (ha:kP 63 [.ls (gs.map ao)] (.ls (L.map ay))) (hi:kP 64 [.ls (gs.map ao)] (.ls (ds.map aJ))) (hE:rh day p (xU L []) ds ds≠ []) :
    kD 39 [.ls (gs.map ao), .func (.func 40) [] [.ptr 1 0 0 0, .ptr 0 0 0 0, .ptr 2 0 0 0]] (aa [iC day,gi p,qY]) (.tuple []) (aa [iC day,gi p,ph 3 ((rh day p (xU L []) ds ds).length - 1) (rh day p (xU L []) ds ds).length,ic ((rh day p (xU L []) ds ds).length - 1) (rh day p (xU L []) ds ds)]):=by
  have hlk:=y6
  have hup:=BU
  let q5:= [iV day];let q8:=cK [];let q10:=some (aZ 1 false 0 [aj p]);let q11:=some (aZ 1 false 0 q5);exact Na Tryz.func39<|Kp 2 ha<|Kl 0 13 (ln ay L)<|Mg 0<|ML (Nat × List PAct × List (Int × PStart)) [0,1,4,12,13,14] (wl gs L day p) (GL gs L day p) (fun a=>a.2.1.length) (0,L,[]) (aU<|wl gs L day p (0,L,[])) (et (rfl:List.drop 0 (L)=L) (by rfl:(xU L []=xU L []))) fun a b c=>let d:=some<|AObj.map (bH an a.2.2 0) a.2.2.length;Mi (fun a b=>xU L []=xU a b) ay b (fun _ b c=>Kh 0 b<|Kp 0 hi<|Kl 2 27 (ln aJ ds)<|Mg 0<|MM (Nat × List PDeed × Unit) (Nat × List PDeed × Nat × Nat × List PDeed) [1,4,7,26,27,28] (wi ds day p a) (GG ds day p a) (GI ds day p a) (GH ds day p a) (fun a=>a.2.1.length) (fun a=>a.2.1.length) (.inl (0,ds,())) (aU<|wi ds day p a (0,ds,())) (et (rfl:List.drop 0 (ds)=ds) (by (exact ⟨rfl⟩):(OnA day p a.2.2 ds ds))) (fun b e f=>Mc b.2.1 (fun d=>have f:=gn e.1 d;have b:=je (J:=fun b _=>OnA day p a.2.2 ds b) (a:=b.2.2) d e.2;Kh 0 f<|Mw .abs (by exact hE (by rw [show xU L []=a.2.2 from c];exact b.f):False)) fun c g h=>let i:=[aw [iV c.act,iV c.item,iV c.day,iV c.it.kind,aW<|c.it.at_.map az,aW<|c.it.to.map az,iV c.it.where_,iV c.it.nth_,iV c.it.unit.act,iV c.it.unit.item,iV c.it.unit.n,iV c.it.unit.kind,aj c.it.unit.label,aW<|c.it.unit.head.map aQ,aW<|c.it.unit.words.map aQ,aW<|c.it.unit.kids.map aV,aW<|c.it.old.map mM,aW<|c.it.new.map mM,aj c.it.label,aj c.it.for_,iV c.it.start.kind,iV c.it.start.day,aj c.it.start.event,iV c.it.act,iV c.it.item,iV c.it.day,aj c.it.event,aW<|c.it.by_.map MF]];let j:=aw [iV (dX a.2.2 c.act).kind,iV (dX a.2.2 c.act).day,aj (dX a.2.2 c.act).event];have k:=gp e.1 h;have :=ap k;have l:=gm (enc:=aJ) e.1 h;have m:=cP (J:=fun b _=>OnA day p a.2.2 ds b) (a:=b.2.2) h e.2;Kt 0 k<|Mx l<|Kp 5 (mS c.it.kind)<|Mb (fp c.it.kind) (fun _=>Ms (Bs day p a.2.2 ds c) (fun d=>K1 4 (.look j) (hlk a.2.2 c.act)<|Kp 1 (mC (dX a.2.2 c.act) c ds<|by (omega))<|M3 (.efx false q8<|aa [aZ 1 false 0 q5,aZ 1 false 0 [aj p],aZ 1 false 0 [aG 5 0 0 1 none],AObj.map (bH an a.2.2 0) a.2.2.length,aZ 28 false 0 i,aZ 28 true 0 i]) (xm rt (tM a.2.2.length 5<|aB (f:=an) (fun _=>rfl) a.2.2 0) rt rt rt ti) ti (Yd day p a.2.2 ds c d)<|Kl 0 46 (dB b.1)<|K1 0 (.ren [0,1,2,3,5,4] [3] [1,4,7,26,27,28]) (tN a.2.2.length<|aB (f:=an) (fun _=>rfl) a.2.2 0)<|M1 (.frz 5 [1,4,7,26,27,28]) (xm rt (tM a.2.2.length 5<|aB (f:=an) (fun _=>rfl) a.2.2 0) rt rt rt ti)<|Mf<|f (.inr (b.1+1,g,(0,1,[c]))) (et (bR e.1 h) (by exact m.new (U1 (e.1.trans h)) (by assumption) (by assumption) rfl:(OnR day p a.2.2 ds g (0:Nat) (1:Nat) [c])))<|fI h) fun k=>K1 4 (.look j) (hlk a.2.2 c.act)<|Kp 1 (mC (dX a.2.2 c.act) c ds<|by (omega))<|M3 (.efx true q8<|aa [aZ 1 false 0 q5,aZ 1 false 0 [aj p],aZ 1 false 0 [ak],AObj.map (bH an a.2.2 0) a.2.2.length,aZ 28 false 0 i]) (xm rt (tM a.2.2.length 5<|aB (f:=an) (fun _=>rfl) a.2.2 0) rt rt rt ti) (xm (aU<|some<|aZ 28 false 0 i) (aU d) (aU<|some<|aZ 1 false 0 [ak]) (aU q10) (aU q11) ti) (Ye day p a.2.2 ds c k)<|Kl 0 46 (dB b.1)<|K1 0 (.frz 4 [1,4,7,26,27,28]) (HK (tM a.2.2.length 4<|aB (f:=an) (fun _=>rfl) a.2.2 0) rt rt rt ti)<|Mf<|f (.inl (b.1+1,g,())) (et (bR e.1 h) (by exact m.nil (by assumption):(OnA day p a.2.2 ds g)))<|fI h) fun _=>Kl 0 46 (dB b.1)<|K1 0 (.frz 4 [1,4,7,26,27,28]) (HK (tM a.2.2.length 4<|aB (f:=an) (fun _=>rfl) a.2.2 0) rt rt rt ti)<|Mf<|f (.inl (b.1+1,g,())) (et (bR e.1 h) (by exact m.no (by assumption):(OnA day p a.2.2 ds g)))<|fI h) fun b e f=>let g:=[aG 4 b.2.2.1 0 b.2.2.2.1 none];let h:=List.map aJ b.2.2.2.2;Mc b.2.1 (fun d=>have f:=gn e.1 d;have d:=je (J:=fun b c=>OnR day p a.2.2 ds b c.1 c.2.1 c.2.2) (a:=b.2.2) d e.2;Kh 0 f<|M2 (.ren [0,1,2,4,3] [4,3] []) (tS 28 true b.2.2.1<|aX wb b.2.2.2.2) (tN a.2.2.length<|aB (f:=an) (fun _=>rfl) a.2.2 0)<|M1 (.frz 4 []) (HK (tR 28 true b.2.2.1 4<|aX wb b.2.2.2.2) rt rt rt ti)<|Mf<|et (aU q8) (by (have q:=d.done;rw [show xU L []=a.2.2 from c,q.1,q.2.1,q.2.2]):(aa [AObj.row 1 false 0 [iV day],AObj.row 1 false 0 [AV.str p],AObj.row 1 false 0 [AV.slice 3 b.2.2.1 0 b.2.2.2.1 none],AObj.row 28 true b.2.2.1 (b.2.2.2.2.map aJ)])=(aa [iC day,gi p,ph 3 ((rh day p (xU L []) ds ds).length - 1) (rh day p (xU L []) ds ds).length,ic ((rh day p (xU L []) ds ds).length - 1) (rh day p (xU L []) ds ds)]))) fun c i j=>let k:=[aw [iV c.act,iV c.item,iV c.day,iV c.it.kind,aW<|c.it.at_.map az,aW<|c.it.to.map az,iV c.it.where_,iV c.it.nth_,iV c.it.unit.act,iV c.it.unit.item,iV c.it.unit.n,iV c.it.unit.kind,aj c.it.unit.label,aW<|c.it.unit.head.map aQ,aW<|c.it.unit.words.map aQ,aW<|c.it.unit.kids.map aV,aW<|c.it.old.map mM,aW<|c.it.new.map mM,aj c.it.label,aj c.it.for_,iV c.it.start.kind,iV c.it.start.day,aj c.it.start.event,iV c.it.act,iV c.it.item,iV c.it.day,aj c.it.event,aW<|c.it.by_.map MF]];let l:=aw [iV (dX a.2.2 c.act).kind,iV (dX a.2.2 c.act).day,aj (dX a.2.2 c.act).event];have m:=gp e.1 j;have :=ap m;have n:=gm (enc:=aJ) e.1 j;have o:=cP (J:=fun b c=>OnR day p a.2.2 ds b c.1 c.2.1 c.2.2) (a:=b.2.2) j e.2;Kt 0 m<|Mx n<|Kp 5 (mS c.it.kind)<|Mb (fp c.it.kind) (fun _=>Ms (Bs day p a.2.2 ds c) (fun d=>K1 4 (.look l) (hlk a.2.2 c.act)<|Kp 1 (mC (dX a.2.2 c.act) c ds<|by (omega))<|M3 (.efx false q8<|aa [aZ 1 false 0 q5,aZ 1 false 0 [aj p],aZ 1 false 0 [aG 4 (b.2.2.1+1) 0 (b.2.2.2.1+1) none],AObj.map (bH an a.2.2 0) a.2.2.length,aZ 28 true (b.2.2.1+1)<|(b.2.2.2.2++ [c]).map aJ,aZ 28 false 0 k]) (MB rt (tR 28 true b.2.2.1 6<|aX wb b.2.2.2.2) (tM a.2.2.length 6<|aB (f:=an) (fun _=>rfl) a.2.2 0) rt rt rt ti) ti (Yb day p a.2.2 ds c b.2.2.1 b.2.2.2.1 b.2.2.2.2 d (by exact o.len)<|by (have z:=o.small;have z2:=o.len;simp only [lC] at z;omega))<|Kl 0 46 (dB b.1)<|K1 0 (.frz 5 [1,4,7,26,27,28]) (xm (tR 28 true (b.2.2.1+1) 5<|aX wb<|b.2.2.2.2++ [c]) (tM a.2.2.length 5<|aB (f:=an) (fun _=>rfl) a.2.2 0) rt rt rt ti)<|Mf<|f (.inr (b.1+1,i,(b.2.2.1+1,b.2.2.2.1+1,b.2.2.2.2++ [c]))) (et (bR e.1 j) (by exact o.new (by assumption) (by assumption) rfl:(OnR day p a.2.2 ds i (b.2.2.1+1) (b.2.2.2.1+1) (b.2.2.2.2++ [c]))))<|fI j) fun m=>K1 4 (.look l) (hlk a.2.2 c.act)<|Kp 1 (mC (dX a.2.2 c.act) c ds<|by (omega))<|M3 (.efx true q8<|aa [aZ 1 false 0 q5,aZ 1 false 0 [aj p],aZ 1 false 0 g,AObj.map (bH an a.2.2 0) a.2.2.length,aZ 28 true b.2.2.1 h,aZ 28 false 0 k]) (MB rt (tR 28 true b.2.2.1 6<|aX wb b.2.2.2.2) (tM a.2.2.length 6<|aB (f:=an) (fun _=>rfl) a.2.2 0) rt rt rt ti) (MB (aU<|some<|aZ 28 false 0 k) (aU<|some<|aZ 28 true b.2.2.1 h) (aU d) (aU<|some<|aZ 1 false 0 g) (aU q10) (aU q11) ti) (Yc day p a.2.2 ds c b.2.2.1 b.2.2.2.1 b.2.2.2.2 m)<|Kl 0 46 (dB b.1)<|K1 0 (.frz 5 [1,4,7,26,27,28]) (xm (tR 28 true b.2.2.1 5<|aX wb b.2.2.2.2) (tM a.2.2.length 5<|aB (f:=an) (fun _=>rfl) a.2.2 0) rt rt rt ti)<|Mf<|f (.inr (b.1+1,i,(b.2.2.1,b.2.2.2.1,b.2.2.2.2))) (et (bR e.1 j) (by exact o.nil (by assumption):(OnR day p a.2.2 ds i b.2.2.1 b.2.2.2.1 b.2.2.2.2)))<|fI j) fun _=>Kl 0 46 (dB b.1)<|K1 0 (.frz 5 [1,4,7,26,27,28]) (xm (tR 28 true b.2.2.1 5<|aX wb b.2.2.2.2) (tM a.2.2.length 5<|aB (f:=an) (fun _=>rfl) a.2.2 0) rt rt rt ti)<|Mf<|f (.inr (b.1+1,i,(b.2.2.1,b.2.2.2.1,b.2.2.2.2))) (et (bR e.1 j) (by exact o.no (by assumption):(OnR day p a.2.2 ds i b.2.2.1 b.2.2.2.1 b.2.2.2.2)))<|fI j) fun d e f g _ h i=>Kt 0 g<|Mx h<|K1 7 (.upd (bH an (kn d.number d.start a.2.2) 0) (kn d.number d.start a.2.2).length) (hup a.2.2 d)<|Kl 0 23 (dB a.1)<|K1 0 (.frz 4 [0,1,4,12,13,14]) (HK (tM (kn d.number d.start a.2.2).length 4<|aB (f:=an) (fun _=>rfl) (kn d.number d.start a.2.2) 0) rt rt rt ti)<|Mf<|c (a.1+1,e,kn d.number d.start a.2.2) (et (bR b.1 f) (by exact i:(xU L []=xU e (kn d.number d.start a.2.2))))<|fI f
/-- What is in force on a day for a purpose. -/
noncomputable def X9 (day:Int) (p:aO) (L:List PAct) (ds:List PDeed):List PDeed:=rh day p (xU L []) ds ds
theorem XY (gs:List PGaz) (day:Int) (p:aO) (hc:kD 39 [.ls (gs.map ao), .func (.func 40) [] [.ptr 1 0 0 0, .ptr 0 0 0 0, .ptr 2 0 0 0]] (aa [iC day,gi p,qY]) (.tuple []) (aa [iC day,gi p,qY])):kP 20 [iV day, .str p, .ls (gs.map ao)] (.ls (([]:List PDeed).map aJ)):=by
  exact bg Tryz.func20<|Ke 5 hc<|Kf 1 bo
theorem XV (gs:List PGaz) (day:Int) (p:aO) (X:List PDeed) (k:Nat) (hz:0<X.length) (hb:X.length<2 ^ 40) (hc:kD 39 [.ls (gs.map ao), .func (.func 40) [] [.ptr 1 0 0 0, .ptr 0 0 0 0, .ptr 2 0 0 0]] (aa [iC day,gi p,qY]) (.tuple []) (aa [iC day,gi p,ph 3 k X.length,ic k X])):kP 20 [iV day, .str p, .ls (gs.map ao)] (.ls (X.map aJ)):=by
  let q:=List.map aJ X;exact bg Tryz.func20<|Ke 5 hc<|Mg 1<|M2 (.fsl 0 [] 6 q) ti (cH (aU k) (tA aJ X X.length rfl)<|aX wb X)<|Ml 6 (fg q false<|aX wb X)<|Mf<|bV<|aW q
theorem XU (gs:List PGaz) (L:List PAct) (ds:List PDeed) (day:Int) (p:aO) (hL:L.length<10000) (hd:ds.length<100000) (ha:kP 63 [.ls (gs.map ao)] (.ls (L.map ay))) (hi:kP 64 [.ls (gs.map ao)] (.ls (ds.map aJ))):kP 20 [iV day, .str p, .ls (gs.map ao)] (.ls ((X9 day p L ds).map aJ)):=by
  by_cases hE:X9 day p L ds = []
  · rw [hE];exact XY gs day p (WJ gs L ds day p hL hd ha hi hE)
  · have hl:(X9 day p L ds).length≤ds.length:=List.length_filter_le ..
    exact XV gs day p _ _ (pC.2 hE) (by omega) (WW gs L ds day p hL hd ha hi hE)
/-- The book with nothing in it. -/
def lF:TUnit:=⟨0,0,0,0, [], [], [], []⟩
theorem Qv:OkB lF:=⟨by decide,by decide,fun x hx=>by
  have e:x=lF:=by simpa [lF,bc,dh] using hx
  subst e;exact ⟨bE _,bE _⟩⟩
theorem Wb (X:List PDeed) (hl:X.length<2 ^ 30) (ho : ∀ d,d∈X→wN d.it):kP 55 [zU, .ls (X.map aJ)] (.tuple [eU (bG lF X), .ls ((dP lF X).map dx)]):=
  (RZ lF X Qv hl ho).args (.cons (vf _ _ (by kernel_rfl)).1 (.cons (Le.refl _) .nil))
theorem zL (X:List PDeed) (hl:X.length<2 ^ 30) (ho : ∀ d,d∈X→wN d.it):kP 34 [.ls (X.map aJ)] (.tuple [eU (bG lF X), .ls ((dP lF X).map dx)]):=by
  have h:=Wb X hl ho
  exact bg Tryz.func34<|Kp 3 h<|Kf 3<|bV<|cK [aw [iV (bG lF X).act,iV (bG lF X).item,iV (bG lF X).n,iV (bG lF X).kind,aj (bG lF X).label,aW<|List.map aQ (bG lF X).head,aW<|List.map aQ (bG lF X).words,aW<|List.map aV (bG lF X).kids],aW<|(dP lF X).map dx]
theorem Dp (gs:List PGaz) (day:Int) (p:aO) (X:List PDeed) (hon:kP 20 [iV day, .str p, .ls (gs.map ao)] (.ls (X.map aJ))):kP 33 [iV day, .str p, .ls (gs.map ao)] (.ls (X.map aJ)):=by
  exact bg Tryz.func33<|Kp 3 hon<|Kf 0<|bV<|aW<|X.map aJ
theorem QN (gs:List PGaz) (day:Int) (p:aO) (X:List PDeed) (hl:X.length<2 ^ 30) (ho : ∀ d,d∈X→wN d.it) (hon:kP 20 [iV day, .str p, .ls (gs.map ao)] (.ls (X.map aJ))):kP 12 [iV day, .str p, .ls (gs.map ao)] (eU (bG lF X)):=by
  have h1:=Dp gs day p X hon
  have h2:=zL X hl ho
  exact bg Tryz.func12<|Kp 3 h1<|Mp h2<|Kf 7<|bV<|aw [iV (bG lF X).act,iV (bG lF X).item,iV (bG lF X).n,iV (bG lF X).kind,aj (bG lF X).label,aW<|List.map aQ (bG lF X).head,aW<|List.map aQ (bG lF X).words,aW<|List.map aV (bG lF X).kids]
theorem QM (gs:List PGaz) (day:Int) (p:aO) (X:List PDeed) (hl:X.length<2 ^ 30) (ho : ∀ d,d∈X→wN d.it) (hon:kP 20 [iV day, .str p, .ls (gs.map ao)] (.ls (X.map aJ))):kP 15 [iV day, .str p, .ls (gs.map ao)] (.ls ((dP lF X).map dx)):=by
  have h1:=Dp gs day p X hon
  have h2:=zL X hl ho
  exact bg Tryz.func15<|Kp 3 h1<|Mp h2<|Kf 7<|bV<|aW<|(dP lF X).map dx
theorem Oz (l m:List PWord) (hl:l.length<2 ^ 60) (hm:m.length<2 ^ 60):kP 32 [.ls (l.map aQ), .ls (m.map aQ)] (.bool (b7 Ad l m)):=by
  have rr0 b' (h:(b7 Ad l m)=b':=by first | exact mL eT hj0 | exact lU eT | (rw [iz zD0 hr0 eT hj0];simp only [Ad,aS,ax,bS, *];first | done | rfl)):=h;exact bg Tryz.func32<|Kl 2 7 (ln aQ l)<|Kl 1 9 (ln aQ m)<|Kc 0 (Int.ofNat l.length) (Int.ofNat m.length) (fun _ _=>Ky 0<|rr0 false) fun _ _=>Mg 0<|rB aQ l [0,1,5] (fun a _=>([aW<|l.map aQ,aW<|m.map aQ,nV a],[])) (fun a=>b7 Ad l m=b7 Ad a (m.drop<|l.length - a.length)) (by (exact zt)) (fun _ _ zD0 _ hr0 a hj0=>Kl 2 13 (ln aQ l)<|Kh 0 a<|Ky 0<|rr0 true) fun a _ zD0 _ b c d hr0 e _ f hj0=>Kl 2 13 (ln aQ l)<|Kt 0 e<|Kx 1 f<|Kx 2 (aR aQ (by (simp only [oN,lM,lS] at *;omega):a<(m).length))<|Kv 0 (xu (d:=(Tryz.prog).underlying 90) (n:=4) (l:=(0,2)::(1,1)::(2,1)::(3,1):: []) (xs:=[aj b.text,iV b.act,iV b.item,iV b.at_]) (ys:=[aj (gD m a).text,iV (gD m a).act,iV (gD m a).item,iV (gD m a).at_]) (H:=AHeap.mk 1000000 Tr.nil) rfl<|mG (e:=dR b.text (gD m a).text) rfl rfl rfl<|mG (e:=ab b.act (gD m a).act) rfl rfl rfl<|mG (e:=ab b.item (gD m a).item) rfl rfl rfl<|zp (e:=ab b.at_ (gD m a).at_) rfl rfl rfl rfl)<|Mn (dR b.text (gD m a).text && (ab b.act (gD m a).act && (ab b.item (gD m a).item && ab b.at_ (gD m a).at_))) (fun _=>Kf 0<|b9<|rr0 false) fun _=>Kl 1 16 (dB a)<|Kf 0<|d<|by (rw [iz zD0 hr0 (by (simp only [oN] at *;omega)) hj0];simp only [Ad,aS,ax,bS, *];first | done | rfl)
theorem UT : ∀ (u:TUnit),o6 u→∀ v,o6 v→kP 11 [eU u,eU v] (.bool (Ae u v)):=by
  refine TUnit.ind fun u ih hu v hv=>?_
  obtain ⟨u1,u2,u3,u4⟩:=lV.1 hu
  obtain ⟨v1,v2,v3,v4⟩:=lV.1 hv
  have hh:=Oz u.head v.head u1 v1
  have hw:=Oz u.words v.words u2 v2
  have hk : ∀ a,a∈u.kids→∀ b,b∈v.kids→kP 11 [eU a,eU b] (.bool (Ae a b)):=fun a ha b hb=>ih a ha (u4 a ha) b (v4 b hb)
  have rr0 b' (h:(Ae u v)=b':=by (rw [Ig];first | (rw [mL (by (simp only [oN] at *;omega)) hj0];simp only [bv,bY,aP,aS,ax,bS, *];done) | (rw [show b7 Ae u.kids v.kids=false from lU (by (simp only [oN] at *;omega))];simp only [bv,bY,aP,aS,ax,bS, *];done) | (rw [iz zD0 hr0 (by (simp only [oN] at *;omega)) hj0];simp only [bv,bY,aP,aS,ax,bS, *];done) | (simp only [bv,bY,aP,aS,ax,bS, *];first | done | rfl))):=h;exact bg Tryz.func11<|Kv 6 (DZ ((Tryz.prog).underlying 27) u.act u.item u.n v.act v.item v.n<|aa [aZ 8 false 0 [aw [iV u.act,iV u.item,iV u.n,iV u.kind,aj u.label,aW<|u.head.map aQ,aW<|u.words.map aQ,aW<|u.kids.map aV]],aZ 8 false 0 [aw [iV v.act,iV v.item,iV v.n,iV v.kind,aj v.label,aW<|v.head.map aQ,aW<|v.words.map aQ,aW<|v.kids.map aV]]])<|Kn 0 (ab u.act v.act && (ab u.item v.item && ab u.n v.n)) (fun c=>Mt (cQ c)<|Mt (cQ c)<|Mt (cQ c)<|Mt (cQ c)<|MV (cQ c)<|Ky 9<|rr0 false) fun c=>Kh 0 (bN c)<|Kh 0 (bN c)<|Kh 0 (bN c)<|Kh 0 (bN c)<|Kw 0 (bN c)<|Kc 0 u.kind v.kind (fun c _=>Mt (cQ c)<|Mt (cQ c)<|Mt (cQ c)<|Mt (cQ c)<|MV (cQ c)<|Ky 7<|rr0 false) fun c _=>Kh 0 (bN c)<|Kh 0 (bN c)<|Kh 0 (bN c)<|Kh 0 (bN c)<|Kw 0 (bN c)<|Kn 0 (dR u.label v.label) (fun c=>Mt (cQ c)<|Mt (cQ c)<|Mt (cQ c)<|Mt (cQ c)<|Mt (cQ c)<|MV (cQ c)<|Ky 5<|rr0 false) fun c=>Kh 0 (bN c)<|Kh 0 (bN c)<|Kh 0 (bN c)<|Kh 0 (bN c)<|Mp hh<|Mh (bN c)<|Kw 0 (bN c)<|Kn 0 (b7 Ad u.head v.head) (fun c=>Mt (cQ c)<|Mt (cQ c)<|Mt (cQ c)<|Mt (cQ c)<|Mt (cQ c)<|MV (cQ c)<|Ky 3<|rr0 false) fun c=>Kh 0 (bN c)<|Kh 0 (bN c)<|Kh 0 (bN c)<|Kh 0 (bN c)<|Mp hw<|Mh (bN c)<|Kw 0 (bN c)<|Kn 0 (b7 Ad u.words v.words) (fun c=>Mt (cQ c)<|Mt (cQ c)<|Mt (cQ c)<|Mt (cQ c)<|Mt (cQ c)<|Mt (cQ c)<|MV (cQ c)<|Ky 1<|rr0 false) fun c=>Kh 0 (bN c)<|Kh 0 (bN c)<|Kl 0 44 (ln aV u.kids)<|Mh (bN c)<|Kh 0 (bN c)<|Kh 0 (bN c)<|Kl 0 47 (ln aV v.kids)<|Mh (bN c)<|Kw 0 (bN c)<|Mn (ab (Int.ofNat u.kids.length)<|Int.ofNat v.kids.length) (fun c=>have :=CY c;Ky 0<|rr0 false) fun c=>have :=iq c;Mg 0<|rB aV u.kids [2,3,5] (fun c _=>([bJ 0 0 0 0,bJ 1 0 0 0,nV c],[aZ 8 false 0 [aw [iV u.act,iV u.item,iV u.n,iV u.kind,aj u.label,aW<|u.head.map aQ,aW<|u.words.map aQ,aW<|u.kids.map aV]],aZ 8 false 0 [aw [iV v.act,iV v.item,iV v.n,iV v.kind,aj v.label,aW<|v.head.map aQ,aW<|v.words.map aQ,aW<|v.kids.map aV]]])) (fun c=>b7 Ae u.kids v.kids=b7 Ae c (v.kids.drop<|u.kids.length - c.length)) (by (exact zt)) (fun _ _ zD0 _ hr0 c hj0=>Kl 3 53 (ln aV u.kids)<|Kh 0 c<|Ky 0<|rr0 true) fun c _ zD0 _ d e f hr0 g _ i hj0=>have i:=i.trans<|congrArg some<|aH d;Kl 3 53 (ln aV u.kids)<|Kt 0 g<|Kx 2 i<|Kx 3 ((aR aV (by (simp only [oN,lM,lS] at *;omega):c<(v.kids).length)).trans<|congrArg some<|aH _)<|Kp 0 (hk d (by exact aM zD0 hr0) (gD v.kids c)<|by exact iQ (by (simp only [oN] at *;omega)))<|Kn 0 (Ae d<|gD v.kids c) (fun _=>Kf 0<|b9<|rr0 false) fun _=>Kl 1 56 (dB c)<|Kf 0<|f<|by (rw [iz zD0 hr0 (by (simp only [oN] at *;omega)) hj0];simp only [aS,ax,bS, *];first | done | rfl)
theorem OU (u:TUnit) (h:OkB u):kP 11 [eU u,eU u] (.bool true):=by
  have z:=UT u (FW h) u (FW h)
  rwa [(Tf u u).2 rfl] at z
/-- What the bound on gazettes tells. -/
structure OkG (gs:List PGaz):Prop where
  fit:pa gs
  len:gs.length≤9
  acts : ∀ g,g∈gs→g.acts.length≤8
  items : ∀ g,g∈gs→∀ a,a∈g.acts→a.items.length≤24∧∀ x,x∈a.items→mF x=true
theorem GY {most:Int} : ∀ (l:List PAct) (n m:Int),most=24→0≤n→lI most l n=some m→0≤m∧∀ a,a∈l→a.items.length≤24∧∀ x,x∈a.items→mF x=true
  | [],n,m,_,hn,h=>by simp only [lI,wD] at h;exact ⟨h ▸ hn,fun a ha=>by cases ha⟩
  | b::r,n,m,hm,hn,h=>by
    unfold lI at h
    cases hb:Aw most n b with
    | true=>rw [hb] at h;cases h
    | false=>
      rw [hb] at h
      unfold Aw at hb
      simp only [A7] at hb
      obtain ⟨z1,_,_,z2⟩:=hb
      have z1:=aF z1
      obtain ⟨q1,q2⟩:=GY r (n+Int.ofNat b.items.length) m hm (by simp only [oN] at *;omega) h
      refine ⟨q1,fun a ha=>?_⟩
      rcases fz.1 ha with rfl | ha
      · refine ⟨by simp only [oN] at *;omega,fun x hx=>?_⟩
        have z3:=qV z2
        exact nH.1 z3 x hx
      · exact q2 a ha
theorem Kq : ∀ (l:List PGaz) (n:Int),0≤n→tu 24 l n=true→∀ g,g∈l→g.acts.length≤8∧∀ a,a∈g.acts→a.items.length≤24∧∀ x,x∈a.items→mF x=true
  | [],_,_,_,g,hg=>by cases hg
  | x::r,n,hn,h,g,hg=>by
    unfold tu at h
    cases hb:vJ x with
    | true=>rw [hb] at h;cases h
    | false=>
      rw [hb] at h
      cases ha:lI 24 x.acts n with
      | none=>rw [ha] at h;cases h
      | some m=>
        rw [ha] at h
        obtain ⟨q1,q2⟩:=GY x.acts n m rfl hn ha
        rcases fz.1 hg with rfl | hg
        · unfold vJ at hb
          have:=aF (A7.1 hb).1
          exact ⟨by simp only [oN] at *;omega,q2⟩
        · exact Kq r m q1 h g hg
theorem VW {gs:List PGaz} {p:aO} (hf:pa gs) (h:Mk gs p=true):OkG gs∧gs.length≤8:=by
  unfold Mk at h
  have h1:=(nF.1 h).1
  unfold Mm at h1
  cases hb:ar 8 (Int.ofNat gs.length) with
  | true=>rw [hb] at h1;cases h1
  | false=>
    rw [hb] at h1
    have:=aF hb
    have hl:gs.length≤8:=by simp only [oN] at *;omega
    have q:=Kq gs 0 (by omega) h1
    exact ⟨⟨hf,by omega,fun g hg=>(q g hg).1,fun g hg=>(q g hg).2⟩,hl⟩
theorem Bk : ∀ (ys out:List PAct),(ys.foldl jU out).length≤out.length+ys.length
  | [],out=>af _
  | a::r,out=>by
    have:=Bk r (jU out a);have:=(NT out a).2
    simp only [mw,lC];omega
theorem ze : ∀ (gs:List PGaz),(∀ g,g∈gs→g.acts.length≤8)→∀ out,(bX gs out).length≤out.length+8 * gs.length
  | [],_,out=>af _
  | g::r,hb,out=>by
    have:=ze r (fun x hx=>hb x (fy _ hx)) (g.acts.foldl jU out)
    have:=Bk g.acts out
    have:=hb g (fG ..)
    simp only [bX,mw,lC] at *
    omega
theorem NS {out:List PAct} {a b:PAct} (h:b∈jU out a):b∈out∨b=a:=by
  unfold jU at h
  split at h
  · exact .inl h
  · rcases kj.1 h with h | h
    · exact .inl h
    · exact .inr (nI.1 h)
theorem Bj : ∀ (ys out:List PAct) (b:PAct),b∈ys.foldl jU out→b∈out∨b∈ys
  | [],out,b,h=> .inl h
  | a::r,out,b,h=>by
    rcases Bj r (jU out a) b h with h | h
    · rcases NS h with h | rfl
      · exact .inl h
      · exact .inr (fG ..)
    · exact .inr (fy _ h)
theorem zd : ∀ (gs:List PGaz) (out:List PAct) (b:PAct),b∈bX gs out→b∈out∨∃ g,g∈gs∧b∈g.acts
  | [],out,b,h=> .inl h
  | g::r,out,b,h=>by
    rcases zd r (g.acts.foldl jU out) b h with h | ⟨g2,q1,q2⟩
    · rcases Bj g.acts out b h with h | h
      · exact .inl h
      · exact .inr ⟨g,fG ..,h⟩
    · exact .inr ⟨g2,fy _ q1,q2⟩
theorem uj : ∀ (l:List PAct),(∀ a,a∈l→a.items.length≤24)→(kY l).length≤24 * l.length
  | [],_=>af _
  | a::r,h=>by
    have:=uj r fun b hb=>h b (fy _ hb)
    have:=h a (fG ..)
    simp only [kY,EY,lA,lx,lC] at *
    omega
theorem OkG.act {gs:List PGaz} (h:OkG gs) {a:PAct} (ha:a∈eg gs):a.items.length≤24∧(∀ x,x∈a.items→mF x=true)∧P9 a:=by
  have ha:=(jo gs).mem_iff.1 ha
  rcases zd gs [] a ha with q | ⟨g,h1,h2⟩
  · cases q
  · exact ⟨(h.items g h1 a h2).1,(h.items g h1 a h2).2,(h.fit.2 g h1).2 a h2⟩
/-- The items as they stand. -/
noncomputable def ql (gs:List PGaz):List PDeed:=bD (al (eg gs) []) (eg gs)
theorem OkG.lens {gs:List PGaz} (h:OkG gs):(eg gs).length≤72∧(ql gs).length≤1728:=by
  have h1:=ze gs h.acts []
  have h2:=(jo gs).length_eq
  have h3:=uj (eg gs) fun a ha=>(h.act ha).1
  have h4:=h.len
  have h5:(ql gs).length=(kY (eg gs)).length:=b8 ..
  simp only [lN] at h1
  omega
theorem OkG.all {gs:List PGaz} (h:OkG gs):kP 63 [.ls (gs.map ao)] (.ls ((eg gs).map ay))∧kP 64 [.ls (gs.map ao)] (.ls ((ql gs).map aJ)):=by
  have h1:=h.lens
  have h2:=(jo gs).length_eq
  have h3:(ql gs).length=(kY (eg gs)).length:=b8 ..
  have h4:=h.len
  exact ⟨K5 gs h.fit (fun g hg=>nG (h.acts g hg) (by decide)) (by omega) (by omega),Pv gs h.fit (fun g hg=>nG (h.acts g hg) (by decide)) (by omega) (by omega) (fun a ha=>nG (h.act ha).1 (by decide)) (by omega)⟩
theorem Ww {x y:PItem} (h:mF x=true) (hy:y∈x.by_):mF y=true:=by
  rw [De] at h
  simp only [bK] at h
  have:=nH.1 h.2.2.2.2.2 y hy
  unfold GN at this
  exact (nF.1 this).2
theorem Wk {x y:PItem} (h:m5 x) (hy:y∈x.by_):m5 y:=(qa.1 h).2.2.2.2.2.2 y hy
theorem EL {K V:Type} {keq:K→K→Bool} {k:K} {v:V} : ∀ {l:List (K × V)} {e:K × V},e∈fw keq k v l→e∈l∨e.2=v
  | [],e,h=>by
    rw [fw,nI] at h;exact .inr (by rw [h])
  | (j,u)::r,e,h=>by
    rw [fw] at h
    cases q:keq k j with
    | true=>
      rw [q] at h
      rcases fz.1 h with h | h
      · exact .inr (by rw [h])
      · exact .inl (fy _ h)
    | false=>
      rw [q] at h
      rcases fz.1 h with h | h
      · exact .inl (by rw [h];exact fG ..)
      · rcases EL (l:=r) h with h | h
        · exact .inl (fy _ h)
        · exact .inr h
theorem F0 {K V:Type} {keq:K→K→Bool} {k:K} {v:V} : ∀ {l:List (K × V)},nC keq k l=some v→∃ e,e∈l∧e.2=v
  | [],h=>by cases h
  | (j,u)::r,h=>by
    rw [nC] at h
    cases q:keq k j with
    | true=>rw [q] at h;exact ⟨(j,u),fG ..,I4 h⟩
    | false=>
      rw [q] at h
      obtain ⟨e,h1,h2⟩:=F0 (l:=r) h
      exact ⟨e,fy _ h1,h2⟩
theorem MN {m:List ((Int × Int) × PItem)} {x:PItem} (hm : ∀ e,e∈m→wN e.2) (h1:mF x=true) (h2:m5 x) : ∀ e,e∈ji m x→wN e.2:=by
  unfold ji
  split
  · rename_i h
    simp only [bK] at h
    have hl:=ap h.1.2
    have hy:gD x.by_ 0∈x.by_:=iQ (by simp only [oN] at hl;omega)
    intro e he
    rcases EL he with q | q
    · exact hm e q
    · rw [q];exact OS (Wk h2 hy) (Ww h1 hy)
  · exact hm
theorem Cv : ∀ (xs:List PItem) (m:List ((Int × Int) × PItem)),(∀ e,e∈m→wN e.2)→(∀ x,x∈xs→mF x=true∧m5 x)→∀ e,e∈xs.foldl ji m→wN e.2
  | [],_,hm,_=>hm
  | x::r,m,hm,h=>Cv r (ji m x) (MN hm (h x (fG ..)).1 (h x (fG ..)).2) fun y hy=>h y (fy _ hy)
theorem Cw : ∀ (l:List PAct) (m:List ((Int × Int) × PItem)),(∀ e,e∈m→wN e.2)→(∀ a,a∈l→∀ x,x∈a.items→mF x=true∧m5 x)→∀ e,e∈al l m→wN e.2
  | [],_,hm,_=>hm
  | a::r,m,hm,h=>Cw r (a.items.foldl ji m) (Cv a.items m hm (h a (fG ..))) fun b hb=>h b (fy _ hb)
theorem zH (a:PAct) : ∀ (l:List PItem) (i:Nat) (d:PDeed),d∈bL a l i→d.it∈l
  | [],_,d,h=>by cases h
  | x::r,i,d,h=>by
    rcases fz.1 h with rfl | h
    · exact fG ..
    · exact fy _ (zH a r _ d h)
theorem OkG.deed {gs:List PGaz} (h:OkG gs) {d:PDeed} (hd:d∈ql gs):wN d.it:=by
  have hi : ∀ a,a∈eg gs→∀ x,x∈a.items→mF x=true∧m5 x:=fun a ha x hx=>⟨(h.act ha).2.1 x hx,(h.act ha).2.2.2 x hx⟩
  obtain ⟨o,ho,rfl⟩:=jr.1 hd
  obtain ⟨a,ha,hoa⟩:=List.mem_flatMap.1 ho
  have h1:=hi a ha _ (zH a _ _ _ hoa)
  have h2:wN o.it:=OS h1.2 h1.1
  unfold lK
  split
  · rename_i hc
    have hc:=(nF.1 hc).1
    unfold qk at hc
    show wN (Hv (al (eg gs) []) o)
    unfold Hv
    cases q:nC o9 (o.act,o.item) (al (eg gs) []) with
    | none=>rw [q] at hc;cases hc
    | some v=>
      obtain ⟨e,e1,e2⟩:=F0 q
      have:=Cw (eg gs) [] (fun e he=>by cases he) hi e e1
      rw [e2] at this
      exact this
  · exact h2
/-- What is in force. -/
noncomputable def jK (day:Int) (p:aO) (gs:List PGaz):List PDeed:=X9 day p (eg gs) (ql gs)
noncomputable def Up (day:Int) (p:aO) (gs:List PGaz):TUnit:=bG lF (jK day p gs)
theorem OkG.force {gs:List PGaz} (h:OkG gs) (day:Int) (p:aO):(jK day p gs).length<2 ^ 30∧(∀ d,d∈jK day p gs→wN d.it)∧kP 20 [iV day, .str p, .ls (gs.map ao)] (.ls ((jK day p gs).map aJ)):=by
  have hl:=h.lens
  have h1:(jK day p gs).length≤(ql gs).length:=List.length_filter_le ..
  exact ⟨by omega,fun d hd=>h.deed (xC.1 hd).1,XU gs _ _ day p (by omega) (by omega) h.all.1 h.all.2⟩
theorem OkG.book {gs:List PGaz} (h:OkG gs) (day:Int) (p:aO):kP 12 [iV day, .str p, .ls (gs.map ao)] (eU (Up day p gs)):=
  QN gs day p _ (h.force day p).1 (h.force day p).2.1 (h.force day p).2.2
theorem OkG.fails {gs:List PGaz} (h:OkG gs) (day:Int) (p:aO):kP 15 [iV day, .str p, .ls (gs.map ao)] (.ls ((dP lF (jK day p gs)).map dx)):=
  QM gs day p _ (h.force day p).1 (h.force day p).2.1 (h.force day p).2.2
noncomputable abbrev YL:List AV:= [iV 0, .nils, .nils,iV 0,iV 0,iV 0,iV 0,iV 0,iV 0, .str [], .nils, .nils, .nils, .nils, .nils, .str [], .str [],iV 0,iV 0, .str [],iV 0,iV 0,iV 0, .str [], .nils]
noncomputable abbrev IF (a i y:Int):AV:= .agg (iV a::iV i::iV y::YL)
noncomputable abbrev pf (a i:Int):AV:= .agg [iV a,iV i]
noncomputable abbrev vk (g:Nat):AV:= .func (.func g) [] []
noncomputable abbrev qn (g:Nat) (a i y:Int):AV:= .func (.func 127) [] [.pptr [vk g] 0 0, .pptr [IF a i y] 0 0]
noncomputable def wR (d:PDeed) (a i y:Int):Int:=Br [gw d.day y,gw d.act a,gw d.item i]
theorem U9 (x y z:Int):kP 113 [.ps [iV x,iV y,iV z] true] (iV (Br [x,y,z])):=
  aN.onArgs (.cons (Le.ps _ _ rfl) .nil) (Uk [x,y,z] (by simp))
theorem TM (d:PDeed) (a i y:Int):kP 128 [aJ d,IF a i y] (iV (wR d a i y)):=by
  exact bg Tryz.func128<|Kp 6 (jl d.day y)<|Kp 3 (jl d.act a)<|Kp 3 (jl d.item i)<|Kp 0 (U9 (gw d.day y) (gw d.act a)<|gw d.item i)<|Kf 0<|bV<|iV<|Br [gw d.day y,gw d.act a,gw d.item i]
theorem TP (o:Int):kP 44 [iV o] (.bool (ar o 0)):=by
  exact wk Tryz.func44 (.go 3 .fin)<|bV<|eu<|ar o 0
theorem JU (o:Int):kP 49 [iV o] (.bool (ax (ar 0 o))):=by
  exact wk Tryz.func49 (.go 3 .fin)<|bV<|eu<|ax<|ar 0 o
theorem DO (d:PDeed) (g:Nat) (a i y:Int) (p:Int→Bool) (hp : ∀ o,kP g [iV o] (.bool (p o))):kP 127 [aJ d, .pptr [vk g] 0 0, .pptr [IF a i y] 0 0] (.bool (ax (p (wR d a i y)))):=by
  have h:=TM d a i y
  exact bg Tryz.func127<|Kp 4 h<|Mp (hp<|wR d a i y)<|Kf 1<|bV<|eu<|ax<|p<|wR d a i y
theorem QI (w:PDeed) (r:List PDeed) (hl:r.length<2 ^ 30):kD 126 [.ls ((w::r).map aJ)] (aa []) (.slice 0 0 0 (r.length+1) none) (aa [ic 0 (w::r)]):=by
  exact Na Tryz.func126<|Mg 1<|Mz 3 (fun (a:((w::r).map aJ:List AV) = [])=>Mw .abs<|m8 _ _ a)<|Mg 3<|M2 .apl (et (by exact m8 _ _:List.map aJ (w::r)≠ [])<|fM 28 aJ (w::r) fun _=>rfl) (by (refine eV (m:=2 ^ 31) ?_ ?_ ?_ <;> first | omega | (simp only [lM,lC];omega)):small ((w::r).map aJ).length 392=true)<|Kf 0<|et (by simp:(AV.slice 0 0 0 ((w::r).map aJ).length none)=(AV.slice 0 0 0 (r.length+1) none))<|aU<|aa [aZ 28 true 0<|(w::r).map aJ]
theorem vw (X:List PDeed) (hz:X≠ []) (hl:X.length<2 ^ 30):kD 126 [.ls (X.map aJ)] (aa []) (.slice 0 0 0 X.length none) (aa [ic 0 X]):=by
  cases X with
  | nil=>exact absurd rfl hz
  | cons w r=>exact QI w r (by simp only [lC] at hl;omega)
end Go.Proofs.YtempcdhknnjebaaGreatDoor
