/- Functions walked: what each of them answers, for the law of purposes: part 7. Conditions: those that each theorem names. -/
import Derived.Test.YtidehekfpcgelaaGreatDoorH6
namespace Go.Proofs.YtidehekfpcgelaaGreatDoor
open Go Go.Ev
theorem wZ:kP 68 [.nils] (.ls ((iR []).map aK)):=(iI [] (by simp)).onArgs (.cons Le.nils .nil)
theorem CR {g:Int→Bool} {K:List Int} {x e:Nat} {S:List PSpan} (h:S=jS g (K.drop (x - 1))) (h1:1≤x) (h2:x<K.length) (hg:g (gD K (x - 1))=true) (he:e=x+1):S=⟨gD K (x - 1),gD K x⟩::jS g (K.drop (e - 1)):=by rw [h,Bo h1 h2,hg,he]
theorem CS {g:Int→Bool} {K:List Int} {x e:Nat} {S:List PSpan} (h:S=jS g (K.drop (x - 1))) (h1:1≤x) (h2:x<K.length) (hg:g (gD K (x - 1))=false) (he:e=x+1):S=jS g (K.drop (e - 1)):=by rw [h,Bo h1 h2,hg,he]
theorem Xc:bz (dD (pZ [])) = []:=rh (by have z:=zT [];exact Nat.le_zero.1 z)
theorem V2 {A B x y:List PSpan} (h1:A=x) (h2:B=y):x++y=A++B:=by rw [h1,h2]
theorem QP {A B x:List PSpan} (h1:A=x) (h2:B = []):x=A++B:=by rw [h1,h2,dB]
theorem Uf {A B y:List PSpan} (h1:A = []) (h2:B=y):y=A++B:=by rw [h1,h2];rfl
theorem SD {A r:List PSpan} {w:PSpan} (h:A=w::r) (hl:A.length≤1048577):r.length<2 ^ 30:=by rw [h,lC] at hl;omega
theorem RI {A B:List PSpan} {w v:PSpan} {r s:List PSpan} (h:A=w::r) (k:B=v::s) (hl:A.length≤1048577) (kl:B.length≤1048577):small (r.length+1+((v::s).map aK).length) 16=true:=by
  rw [h,lC] at hl;rw [k,lC] at kl
  rw [lM,lC];refine ei (m:=2 ^ 31) ?_ ?_ ?_ <;> omega
theorem Jk {B:List PSpan} {v:PSpan} {s:List PSpan} (k:B=v::s) (kl:B.length≤1048577):small ((v::s).map aK).length 16=true:=by
  rw [k,lC] at kl
  rw [lM,lC];refine ei (m:=2 ^ 31) ?_ ?_ ?_ <;> omega
def QT (F:Nat) (A:List PSpan) (B:List PSpan) (z20:List PSpan):Prop:=z20=A++B
noncomputable def QS (F:Nat) (A:List PSpan) (B:List PSpan) (z20:List PSpan):List AV × List AObj:=([AV.ls (A.map aK),AV.ls (B.map aK),AV.func (Fn.func F) [] [],AV.nils,AV.ls (z20.map aK),nV z20.length,iV 0], [])
def M7 (F:Nat) (A:List PSpan) (B:List PSpan) (z20:List PSpan) (z37:List Int):Prop:=z37=iW z20
noncomputable def M6 (F:Nat) (A:List PSpan) (B:List PSpan) (z20:List PSpan) (z37:List Int):List AV × List AObj:=([AV.ls (A.map aK),AV.ls (B.map aK),AV.func (Fn.func F) [] [],AV.ls (z37.map be)], [])
def M5 (F:Nat) (A:List PSpan) (B:List PSpan) (z20:List PSpan) (z37:List Int):Prop:=z37=iW z20
noncomputable def M4 (F:Nat) (A:List PSpan) (B:List PSpan) (z20:List PSpan) (z37:List Int):List AV × List AObj:=([AV.ls (A.map aK),AV.ls (B.map aK),AV.func (Fn.func F) [] [],AV.ls (z37.map be)], [])
theorem KL (F:Nat) (op:Bool→Bool→Bool) (hF : ∀ x y,aO Tryz.prog G F [.bool x, .bool y] (.bool (op x y))) (e0:op false false=false) (a b:List PSpan) (ha:a.length<2 ^ 30) (hb:b.length<2 ^ 30) :
    aO Tryz.prog G 324 [.ls (a.map aK), .ls (b.map aK), .func (.func F) [] []] (.ls ((rG op a b).map aK)):=by
  have nA:=iI a ha
  have nB:=iI b hb
  have hA:=mq a
  have hB:=mq b
  have hd:=M8 e0 (a:=a) (b:=b) rfl rfl
  generalize iR a=A at *
  generalize iR b=B at *
  have lA:=hA.len
  have lB:=hB.len
  have hasA : ∀ d,aO Tryz.prog G 67 [.ls (A.map aK), .int .i64 d] (.bool (iw A d)):=fun d=>Iq A d hA.sort (by omega)
  have hasB : ∀ d,aO Tryz.prog G 67 [.ls (B.map aK), .int .i64 d] (.bool (iw B d)):=fun d=>Iq B d hB.sort (by omega)
  obtain ⟨g,hg⟩ : ∃ g:Int→Bool,g=fun d=>op (iw A d) (iw B d):=⟨_,rfl⟩
  have hgv : ∀ d v0,op (iw A d) (iw B d)=v0→g d=v0:=fun d v0 h=>by rw [hg];exact h
  rw [← hg] at hd
  have hcl : ∀ x,x=A++B→(iW x).length<2 ^ 30:=fun x hx=>by
    have z:=zT x
    rw [hx,dS] at z
    rw [hx];omega
  have hll : ∀ x,x=A++B→x.length<2 ^ 22:=fun x hx=>by rw [hx,dS];omega
  obtain ⟨res,hres⟩ : ∃ res,res=rG op a b:=⟨_,rfl⟩
  rw [← hres] at hd ⊢
  have hdone : ∀ x y z,x=A++B→y=iW x→jS g y=z→iR z=res:=fun x y z h1 h2 h3=>by rw [← h3,h2,h1];exact hd
  clear hd hg hres hA hB
  have rr0 b' (h:(List.map aK res)=b':=by first | rfl | exact hdone _ _ _ hz20 hz37 (by rw [hx1.2.2,kM hx1.1 (by (first | omega | (simp only [aI] at *;omega)))]) | exact (hdone _ _ _ hz20 hz37 (by rw [hx1.2.2.2.2,kM hx1.1 (by (first | omega | (simp only [aI] at *;omega))),dB])) | (rw [hdone _ _ _ hz20 hz37 (by rw [hx1.2.2,kM hx1.1 (by (first | omega | (simp only [aI] at *;omega)))])]) | (rw [hdone _ _ _ hz20 hz37 (by rw [hx1.2.2.2.2,kM hx1.1 (by (first | omega | (simp only [aI] at *;omega))),dB])])):=h;exact bB Tryz.func324<|Kp 1 nA<|Kp 0 nB<|Mg 2<|M0 .inn<|Mj (List PSpan) [0,1,2,7,20,21,22] (QS F A B) (QT F A B) (fun c=>Mg 0<|Mc A (fun e=>Ml 17 (dA<|by rw [e];rfl:Le (aX []) (aX (List.map aK A)))<|Mz 17 (fun (_:([]:List AV) = [])=>Mg 1<|Mc B (fun e=>Ml 19 (dA<|by rw [e];rfl:Le (aX []) (aX (List.map aK B)))<|Kl 0 20 bA<|Kf 1<|c [] (by exact QP (by assumption) (by assumption):[]=A++B)) fun e f i=>Ml 19 (dA<|by rw [i]:Le (aX (List.map aK (e::f))) (aX (List.map aK B)))<|M2 .apl (et (by exact lL _ _:List.map aK (e::f)≠ [])<|fM 2 aK (e::f) fun _=>rfl) (by exact Jk (by assumption) lB:small (List.map aK (e::f)).length 16=true)<|M2 (.fsl 0 [0,1,2,7] 20<|List.map aK<|e::f) True.intro (cp (aU 0) (tA aK (e::f) (List.map aK<|e::f).length (by (simp only [cX,cN,dS];done):(e::f).length=(List.map aK (e::f)).length))<|aW Ua<|e::f)<|Ml 20 (fx (List.map aK<|e::f) false<|aW Ua<|e::f)<|Kl 0 21 (ln aK<|e::f)<|Kf 0<|c (e::f) (by exact Uf (by assumption) (by assumption):e::f=A++B))<|Mg 1<|Mc B (fun e=>Ml 19 (dA<|by rw [e];rfl:Le (aX []) (aX (List.map aK B)))<|Kl 0 20 (fx [] true (aU 0:aq ([])=0))<|Kf 1<|c [] (by exact QP (by assumption) (by assumption):[]=A++B)) fun e f i=>Ml 19 (dA<|by rw [i]:Le (aX (List.map aK (e::f))) (aX (List.map aK B)))<|M2 .apl (et (by exact lL _ _:List.map aK (e::f)≠ [])<|fM 2 aK (e::f) fun _=>rfl) (by exact Jk (by assumption) lB:small (List.map aK (e::f)).length 16=true)<|M2 (.fsl 0 [0,1,2,7] 20<|List.map aK<|e::f) True.intro (cp (aU 0) (tA aK (e::f) (List.map aK<|e::f).length (by (simp only [cX,cN,dS];done):(e::f).length=(List.map aK (e::f)).length))<|aW Ua<|e::f)<|Ml 20 (fx (List.map aK<|e::f) false<|aW Ua<|e::f)<|Kl 0 21 (ln aK<|e::f)<|Kf 0<|c (e::f) (by exact Uf (by assumption) (by assumption):e::f=A++B)) fun e f i=>Ml 17 (dA<|by rw [i]:Le (aX (List.map aK (e::f))) (aX (List.map aK A)))<|Me (QC e f<|by exact SD (by assumption) lA)<|Mg 0<|Mc B (fun i=>Ml 19 (dA<|by rw [i];rfl:Le (aX []) (aX (List.map aK B)))<|Mg 0<|M2 (.fsl 0 [0,1,2,7] 20<|List.map aK<|e::f) True.intro (cp (aU 0) (tA aK (e::f) (f.length+1) rfl)<|aW Ua<|e::f)<|Ml 20 (fx (List.map aK<|e::f) false<|aW Ua<|e::f)<|Kl 0 21 (ln aK<|e::f)<|Kf 0<|c (e::f) (by exact QP (by assumption) (by assumption):e::f=A++B)) fun i j k=>Ml 19 (dA<|by rw [k]:Le (aX (List.map aK (i::j))) (aX (List.map aK B)))<|M2 .apl (et (by exact lL _ _:List.map aK (i::j)≠ [])<|fM 2 aK (i::j) fun _=>rfl) (cp (aU 0) (by (simp only [cX,cN,dS];done):f.length+1=(List.map aK (e::f)).length) (by exact RI (by assumption) (by assumption) lA lB:small (f.length+1+(List.map aK (i::j)).length) 16=true))<|M1 (.obj 0<|aZ 2 true (0+1)<|List.map aK<|e::f++i::j) (congrArg (aZ 2 true<|0+1)<|cC (f:=aK) (l:=e::f) (ws:=i::j))<|M2 (.fsl 0 [0,1,2,7] 20<|List.map aK<|e::f++i::j) True.intro (cp (aU<|0+1) (tA aK (e::f++i::j) (f.length+1+(List.map aK<|i::j).length) (by (simp only [cX,cN,dS];done):(e::f++i::j).length=f.length+1+(List.map aK (i::j)).length))<|aW Ua<|e::f++i::j)<|Ml 20 (fx (List.map aK<|e::f++i::j) false<|aW Ua<|e::f++i::j)<|Kl 0 21 (ln aK<|e::f++i::j)<|Kf 0<|c (e::f++i::j) (by exact V2 (by assumption) (by assumption):e::f++i::j=A++B)) fun c hz20=>have hz20:=hz20;jG Nat Nat (List Int) aK c [0,1,2,7,20,21,22] (fun e _=>([aX<|A.map aK,aX<|B.map aK,bU (bY F) [] [],aa,aX<|c.map aK,nV c.length,nV e],[])) (fun e _ f i j=>([aX<|A.map aK,aX<|B.map aK,bU (bY F) [] [],aH 0 f 0 i none,aX<|c.map aK,nV c.length,nV e],[aZ 1 true f<|j.map be])) (fun e=>pZ c=pZ e) (fun e _ f i=>f=i.length∧(0:Nat)<i.length∧pZ c=i++pZ e) (by rfl) (fun _ _ _ _ _ e f=>Kh 0 e<|Kp 0 FC<|Mj (List Int) [0,1,2,7] (M6 F A B c) (M7 F A B c) (fun e=>Kl 1 37 bA<|Kf 0<|e [] (by (unfold iW;rw [f];exact Xc.symm):[]=iW c)) fun e hz37=>have hz37:=hz37;have :=hz37 ▸ hcl _ hz20;Mg 1<|Rv Nat Nat Nat (List PSpan) (1:Nat) [0,1,2,7,10,11] (fun c=>([aX<|A.map aK,aX<|B.map aK,bU (bY F) [] [],aX<|e.map be,aa,nV c],[])) (fun c f i j=>([aX<|A.map aK,aX<|B.map aK,bU (bY F) [] [],aX<|e.map be,aH 0 f 0 i none,nV c],[aZ 2 true f<|j.map aK])) (fun c=>(1:Nat)≤c∧c≤2 ^ 30∧jS g e=jS g (e.drop<|c - 1)) (fun c _ f i=>(1:Nat)≤c∧c≤2 ^ 30∧f=i.length∧i.length<c∧jS g e=i++jS g (e.drop<|c - 1)) (fun c=>2 ^ 31 - c) (fun c _ _ _=>2 ^ 31 - c) (by exact ⟨ah _,by omega,rfl⟩) (fun c hx1 f i=>have hx1:=hx1;have :=hx1.1;have :=hx1.2.1;Kl 2 40 (ln be e)<|Ka 0 (Int.ofNat c) (Int.ofNat e.length) (fun _ _=>Kl 2 46 (EY c)<|Mx (aT be (by (simp only [aI,cX,ky] at *;omega):c - 1<(e).length))<|Kp 4 (hasA<|gD e<|c - 1)<|Kp 1 (hasB<|gD e<|c - 1)<|Mp (hF (iw A<|gD e<|c - 1)<|iw B<|gD e<|c - 1)<|Mb (op (iw A<|gD e<|c - 1)<|iw B<|gD e<|c - 1) (fun _=>Kx 3 (aT be (by (simp only [aI,cX,ky] at *;omega):c<(e).length))<|Kl 6 43 (iK c)<|Kf 0<|i (c+1) 0 1 [PSpan.mk (gD e<|c - 1)<|gD e c] (by exact ⟨by (omega),by (simp only [aI] at *;omega),rfl,by (simp only [cN,gh];omega),CR hx1.2.2 hx1.1 (by (simp only [aI] at *;omega)) (hgv _ _ (by assumption)) rfl⟩)<|by (omega)) fun _=>Kl 1 43 (iK c)<|Kf 0<|f (c+1) (by exact ⟨by (omega),by (simp only [aI] at *;omega),CS hx1.2.2 hx1.1 (by (simp only [aI] at *;omega)) (hgv _ _ (by assumption)) rfl⟩)<|by (omega)) fun _ _=>Kp 0 wZ<|Kf 0<|b9<|rr0<|List.map aK<|iR []) fun c i j k hx1 _ l=>have hx1:=hx1;have :=hx1.1;have :=hx1.2.1;Kl 2 40 (ln be e)<|Ka 0 (Int.ofNat c) (Int.ofNat e.length) (fun _ _=>Kl 2 46 (EY c)<|Mx (aT be (by (simp only [aI,cX,ky] at *;omega):c - 1<(e).length))<|Kp 4 (hasA<|gD e<|c - 1)<|Kp 1 (hasB<|gD e<|c - 1)<|Mp (hF (iw A<|gD e<|c - 1)<|iw B<|gD e<|c - 1)<|Mb (op (iw A<|gD e<|c - 1)<|iw B<|gD e<|c - 1) (fun _=>Kx 3 (aT be (by (simp only [aI,cX,ky] at *;omega):c<(e).length))<|K1 2 .app (cp (aU i) (by (rw [cX];first | exact f.1 | exact hx1.2.2.1):j=(List.map aK k).length) (by (refine ei (m:=2 ^ 31) ?_ ?_ ?_ <;> first | omega | (simp only [cX,cN,dS,gh];omega) | (have z:=congrArg List.length f.2.2;rw [kW,dS] at z;have z9:=hll _ hz20;have z2:=f.1;first | omega | (simp only [cN,gh];omega)) | (have z:=hx1.2.2.2.1;have z2:=hx1.2.2.1;have z3:=hx1.2.1;first | omega | (simp only [cN,gh];omega))):small (j+1) 16=true))<|M1 (.obj 0<|aZ 2 true (i+1)<|List.map aK<|k++ [PSpan.mk (gD e<|c - 1)<|gD e c]) (congrArg (aZ 2 true<|i+1)<|cC (f:=aK) (l:=k) (ws:=[PSpan.mk (gD e<|c - 1)<|gD e c]))<|Kl 2 43 (iK c)<|Kf 0<|l (c+1) (i+1) (j+1) (k++ [PSpan.mk (gD e<|c - 1)<|gD e c]) (by exact ⟨by (omega),by (simp only [aI] at *;omega),by rw [dS,← hx1.2.2.1];rfl,by (have z:=hx1.2.2.2.1;simp only [dS,cN,gh];omega),by rw [hx1.2.2.2.2,CR rfl hx1.1 (by (simp only [aI] at *;omega)) (hgv _ _ (by assumption)) rfl];simp⟩)<|by (omega)) fun _=>Kl 1 43 (iK c)<|Kf 0<|l (c+1) i j k (by exact ⟨by (omega),by (simp only [aI] at *;omega),hx1.2.2.1,by (have z:=hx1.2.2.2.1;omega),by rw [hx1.2.2.2.2,CS rfl hx1.1 (by (simp only [aI] at *;omega)) (hgv _ _ (by assumption)) rfl]⟩)<|by (omega)) fun _ _=>Mg 0<|M2 (.fsl 0 [] 66<|List.map aK k) True.intro (cp (aU i) (tA aK k j (by (omega):(k).length=j))<|aW Ua k)<|Ml 66 (fx (List.map aK k) false<|aW Ua k)<|Mp (iI k<|by (omega))<|Kf 0<|b9<|rr0<|List.map aK<|iR k) (fun e _ _ _ f i _ j _ k _ l n=>have :=hll _ hz20;Kt 0 k<|Mx l<|Kl 11 33 (iK e)<|Mg 0<|M0 (.ren [1,0] [] [0,1,2,7,20,21,22])<|M1 (.frz 1 [0,1,2,7,20,21,22]) (et (aU true) True.intro)<|Mf<|j 0 2 [f.from_,f.to]<|by exact ⟨rfl,by simp,by rw [n];rfl⟩) (fun _ _ e f i _ _ _ j k=>Kh 0 j<|Ke 0 (IK i e f (by (omega)) (by (omega))<|by (have z:=congrArg List.length k.2.2;rw [kW,dS] at z;have z9:=hll _ hz20;omega))<|Mj (List Int) [0,1,2,7] (M4 F A B c) (M5 F A B c) (fun j=>Ke 0 (AN (dD i) e f (by (rw [(kn _).length_eq];first | exact k.1 | exact k.2.1 | (have z:=congrArg List.length k.2.2;rw [kW,dS] at z;have z9:=hll _ hz20;omega))) (by (rw [(kn _).length_eq];first | exact k.1 | exact k.2.1 | (have z:=congrArg List.length k.2.2;rw [kW,dS] at z;have z9:=hll _ hz20;omega)))<|by (rw [(kn _).length_eq];first | exact k.1 | exact k.2.1 | (have z:=congrArg List.length k.2.2;rw [kW,dS] at z;have z9:=hll _ hz20;omega)))<|M2 (.fsl 0 [0,1,2] 37<|List.map be<|List.take (bz<|dD i).length<|bz (dD i)++List.replicate ((dD i).length - (bz<|dD i).length) 0) True.intro (cp (aU e) (Bf (f:=be) (l:=bz (dD i)++List.replicate ((dD i).length - (bz<|dD i).length) 0) (n:=(bz<|dD i).length))<|aW VI<|List.take (bz<|dD i).length<|bz (dD i)++List.replicate ((dD i).length - (bz<|dD i).length) 0)<|Ml 37 (fx (List.map be<|List.take (bz<|dD i).length<|bz (dD i)++List.replicate ((dD i).length - (bz<|dD i).length) 0) false<|aW VI<|List.take (bz<|dD i).length<|bz (dD i)++List.replicate ((dD i).length - (bz<|dD i).length) 0)<|Kf 0<|j (List.take (bz<|dD i).length<|bz (dD i)++List.replicate ((dD i).length - (bz<|dD i).length) 0) (by (unfold iW;rw [k.2.2];simp [pZ]):List.take (bz (dD i)).length (bz (dD i)++List.replicate ((dD i).length - (bz (dD i)).length) (0:Int))=iW c)) fun e hz37=>have hz37:=hz37;have :=hz37 ▸ hcl _ hz20;Mg 1<|Rv Nat Nat Nat (List PSpan) (1:Nat) [0,1,2,7,10,11] (fun c=>([aX<|A.map aK,aX<|B.map aK,bU (bY F) [] [],aX<|e.map be,aa,nV c],[])) (fun c f i j=>([aX<|A.map aK,aX<|B.map aK,bU (bY F) [] [],aX<|e.map be,aH 0 f 0 i none,nV c],[aZ 2 true f<|j.map aK])) (fun c=>(1:Nat)≤c∧c≤2 ^ 30∧jS g e=jS g (e.drop<|c - 1)) (fun c _ f i=>(1:Nat)≤c∧c≤2 ^ 30∧f=i.length∧i.length<c∧jS g e=i++jS g (e.drop<|c - 1)) (fun c=>2 ^ 31 - c) (fun c _ _ _=>2 ^ 31 - c) (by exact ⟨ah _,by omega,rfl⟩) (fun c hx1 f i=>have hx1:=hx1;have :=hx1.1;have :=hx1.2.1;Kl 2 40 (ln be e)<|Ka 0 (Int.ofNat c) (Int.ofNat e.length) (fun _ _=>Kl 2 46 (EY c)<|Mx (aT be (by (simp only [aI,cX,ky] at *;omega):c - 1<(e).length))<|Kp 4 (hasA<|gD e<|c - 1)<|Kp 1 (hasB<|gD e<|c - 1)<|Mp (hF (iw A<|gD e<|c - 1)<|iw B<|gD e<|c - 1)<|Mb (op (iw A<|gD e<|c - 1)<|iw B<|gD e<|c - 1) (fun _=>Kx 3 (aT be (by (simp only [aI,cX,ky] at *;omega):c<(e).length))<|Kl 6 43 (iK c)<|Kf 0<|i (c+1) 0 1 [PSpan.mk (gD e<|c - 1)<|gD e c] (by exact ⟨by (omega),by (simp only [aI] at *;omega),rfl,by (simp only [cN,gh];omega),CR hx1.2.2 hx1.1 (by (simp only [aI] at *;omega)) (hgv _ _ (by assumption)) rfl⟩)<|by (omega)) fun _=>Kl 1 43 (iK c)<|Kf 0<|f (c+1) (by exact ⟨by (omega),by (simp only [aI] at *;omega),CS hx1.2.2 hx1.1 (by (simp only [aI] at *;omega)) (hgv _ _ (by assumption)) rfl⟩)<|by (omega)) fun _ _=>Kp 0 wZ<|Kf 0<|b9<|rr0<|List.map aK<|iR []) fun c f i j hx1 _ l=>have hx1:=hx1;have :=hx1.1;have :=hx1.2.1;Kl 2 40 (ln be e)<|Ka 0 (Int.ofNat c) (Int.ofNat e.length) (fun _ _=>Kl 2 46 (EY c)<|Mx (aT be (by (simp only [aI,cX,ky] at *;omega):c - 1<(e).length))<|Kp 4 (hasA<|gD e<|c - 1)<|Kp 1 (hasB<|gD e<|c - 1)<|Mp (hF (iw A<|gD e<|c - 1)<|iw B<|gD e<|c - 1)<|Mb (op (iw A<|gD e<|c - 1)<|iw B<|gD e<|c - 1) (fun _=>Kx 3 (aT be (by (simp only [aI,cX,ky] at *;omega):c<(e).length))<|K1 2 .app (cp (aU f) (by (rw [cX];first | exact k.1 | exact hx1.2.2.1):i=(List.map aK j).length) (by (refine ei (m:=2 ^ 31) ?_ ?_ ?_ <;> first | omega | (simp only [cX,cN,dS,gh];omega) | (have z:=congrArg List.length k.2.2;rw [kW,dS] at z;have z9:=hll _ hz20;have z2:=k.1;first | omega | (simp only [cN,gh];omega)) | (have z:=hx1.2.2.2.1;have z2:=hx1.2.2.1;have z3:=hx1.2.1;first | omega | (simp only [cN,gh];omega))):small (i+1) 16=true))<|M1 (.obj 0<|aZ 2 true (f+1)<|List.map aK<|j++ [PSpan.mk (gD e<|c - 1)<|gD e c]) (congrArg (aZ 2 true<|f+1)<|cC (f:=aK) (l:=j) (ws:=[PSpan.mk (gD e<|c - 1)<|gD e c]))<|Kl 2 43 (iK c)<|Kf 0<|l (c+1) (f+1) (i+1) (j++ [PSpan.mk (gD e<|c - 1)<|gD e c]) (by exact ⟨by (omega),by (simp only [aI] at *;omega),by rw [dS,← hx1.2.2.1];rfl,by (have z:=hx1.2.2.2.1;simp only [dS,cN,gh];omega),by rw [hx1.2.2.2.2,CR rfl hx1.1 (by (simp only [aI] at *;omega)) (hgv _ _ (by assumption)) rfl];simp⟩)<|by (omega)) fun _=>Kl 1 43 (iK c)<|Kf 0<|l (c+1) f i j (by exact ⟨by (omega),by (simp only [aI] at *;omega),hx1.2.2.1,by (have z:=hx1.2.2.2.1;omega),by rw [hx1.2.2.2.2,CS rfl hx1.1 (by (simp only [aI] at *;omega)) (hgv _ _ (by assumption)) rfl]⟩)<|by (omega)) fun _ _=>Mg 0<|M2 (.fsl 0 [] 66<|List.map aK j) True.intro (cp (aU f) (tA aK j i (by (omega):(j).length=i))<|aW Ua j)<|Ml 66 (fx (List.map aK j) false<|aW Ua j)<|Mp (iI j<|by (omega))<|Kf 0<|b9<|rr0<|List.map aK<|iR j) fun e _ f i j _ _ k l _ n _ o _ p q=>have :=hll _ hz20;Kt 0 o<|Mx p<|K1 8 .app (cp (aU f) (by (rw [cX];first | exact q.1 | exact hx1.2.2.1):i=(List.map be j).length) (by (refine ei (m:=2 ^ 31) ?_ ?_ ?_ <;> first | omega | (simp only [cX,cN,dS,gh];omega) | (have z:=congrArg List.length q.2.2;rw [kW,dS] at z;have z9:=hll _ hz20;have z2:=q.1;first | omega | (simp only [cN,gh];omega)) | (have z:=hx1.2.2.2.1;have z2:=hx1.2.2.1;have z3:=hx1.2.1;first | omega | (simp only [cN,gh];omega))):small (i+2) 8=true))<|M1 (.obj 0<|aZ 1 true (f+1)<|List.map be<|j++ [k.from_,k.to]) (congrArg (aZ 1 true<|f+1)<|cC (f:=be) (l:=j) (ws:=[k.from_,k.to]))<|Kl 1 33 (iK e)<|K1 0 (.frz 1 [0,1,2,7,20,21,22]) (et (tR 1 true (f+1) 1<|aW VI<|j++ [k.from_,k.to]) True.intro)<|Mf<|n (f+1) (i+2) (j++ [k.from_,k.to])<|by exact ⟨by rw [dS,← q.1];rfl,by simp,by rw [q.2.2,Cy];simp⟩
theorem U2 (x y:Bool):kP 325 [.bool x, .bool y] (.bool (x || y)):=by
  have rr0 b' (h:(x || y)=b':=by simp only [aS,ax,bS, *]):=h;exact bB Tryz.func325<|Kb 2 x (fun a=>MV a<|Ky 0<|rr0 true) fun a=>Kw 0 a<|Ky 0<|rr0 y
theorem T0 (x y:Bool):kP 326 [.bool x, .bool y] (.bool (x && y)):=by
  have rr0 b' (h:(x && y)=b':=by simp only [aS,ax,bS, *]):=h;exact bB Tryz.func326<|Kb 2 x (fun a=>Ku 0 a<|Ky 0<|rr0 y) fun a=>My a<|Ky 0<|rr0 false
theorem NG (a b:List PSpan) (ha:a.length<2 ^ 30) (hb:b.length<2 ^ 30):kP 278 [.ls (a.map aK), .ls (b.map aK)] (.ls ((rG (· || ·) a b).map aK)):=by
  have h:=KL 325 (· || ·) U2 rfl a b ha hb
  exact bB Tryz.func278<|Kp 2 h<|Kf 0<|bg<|aX<|(rG (fun c d=>c || d) a b).map aK
theorem Pe (a b:List PSpan) (ha:a.length<2 ^ 30) (hb:b.length<2 ^ 30):kP 281 [.ls (a.map aK), .ls (b.map aK)] (.ls ((rG (· && ·) a b).map aK)):=by
  have h:=KL 326 (· && ·) T0 rfl a b ha hb
  exact bB Tryz.func281<|Kp 2 h<|Kf 0<|bg<|aX<|(rG (fun c d=>c && d) a b).map aK
noncomputable def oh (a:List PSpan) (d:Int):List PSpan:=rG (· && ·) a [⟨0,d⟩]
noncomputable def ph (a:List PSpan) (d:Int):List PSpan:=rG (· || ·) (oh a d) [⟨d,1048577⟩]
theorem rO (a:List PSpan) (d:Int):NrmS (oh a d):=yL _
theorem tL (a:List PSpan) (d:Int):NrmS (ph a d):=yL _
theorem Eo (a:List PSpan) (d:Int) (ha:a.length<2 ^ 30):kP 216 [.ls (a.map aK),iV d] (.ls ((oh a d).map aK)):=by
  have h:kP 281 [.ls (a.map aK), .ps [aK ⟨0,d⟩] true] (.ls ((oh a d).map aK)):=(Pe a [⟨0,d⟩] ha (by simp)).onArgs (.cons (Le.refl _) (.cons (Le.ps _ _ rfl) .nil))
  exact bB Tryz.func216<|Kp 4 h<|Kf 0<|bg<|aX<|(oh a d).map aK
theorem QV (a:List PSpan) (d:Int) (ha:a.length<2 ^ 30):kP 214 [.ls (a.map aK),iV d] (.ls ((ph a d).map aK)):=by
  have h0:=Eo a d ha
  have hl:=(rO a d).len
  have h:kP 278 [.ls ((oh a d).map aK), .ps [aK ⟨d,1048577⟩] true] (.ls ((ph a d).map aK)):=(NG (oh a d) [⟨d,1048577⟩] (by omega) (by simp)).onArgs (.cons (Le.refl _) (.cons (Le.ps _ _ rfl) .nil))
  exact bB Tryz.func214<|Kp 2 h0<|Kp 2 h<|Kf 0<|bg<|aX<|(ph a d).map aK
noncomputable def rC (k:Int):Bool:=ab k 7 || ab k 9
noncomputable def kB (k:Int):Bool:=rC k || ab k 8
noncomputable def rl (k:Int):AV:=match rC k with | true=> .func (.func 214) [] [] | false=>match ab k 8 with | true=> .func (.func 216) [] [] | false=> .nilf
theorem zQ (k:Int):eF (some .nilf) true (bv false 1 [(0,1)] (iV k) [⟨iV 7, .func (.func 214) [] [],0⟩,⟨iV 9, .func (.func 214) [] [],1⟩,⟨iV 8, .func (.func 216) [] [],2⟩] 0)=some (.tuple [rl k, .bool (kB k)]):=by
  unfold rl kB rC
  simp only [bv,qw,Il,kc]
  cases h1:ab k 7 <;> cases h2:ab k 9 <;> cases h3:ab k 8 <;> rfl
theorem NN {k:Int} (h:rC k=true):Le (.func (.func 214) [] []) (rl k):=by unfold rl;rw [h];exact Le.refl _
theorem Rs {k:Int} (h:rC k=false) (h2:kB k=true):Le (.func (.func 216) [] []) (rl k):=by
  unfold kB at h2;rw [h,Bool.false_or] at h2
  unfold rl;rw [h,h2];exact Le.refl _
noncomputable def NO:List AEnt:= [⟨iV 7, .func (.func 214) [] [],0⟩,⟨iV 9, .func (.func 214) [] [],1⟩,⟨iV 8, .func (.func 216) [] [],2⟩]
theorem Rp (x:PItem):kD 119 [] (ay [.row 25 false 0 [eI x]]) (.map 1) (ay [.row 25 false 0 [eI x], .map NO 3]):=by
  exact gQ Tryz.func119 fun a=>Kf 6 a
theorem Rr (s:PStart) (d o:PDeed):kD 119 [] (ay [.row 3 false 0 [ap s], .row 28 false 0 [aY d], .row 28 false 0 [aY o]]) (.map 3) (ay [.row 3 false 0 [ap s], .row 28 false 0 [aY d], .row 28 false 0 [aY o], .map NO 3]):=by
  exact gQ Tryz.func119 fun a=>Kf 6 a
noncomputable def qE (x:PItem) (a i:Int):Bool:=ab x.act a && (match ab x.kind 11 with | true=>ab x.item i | false=>kB x.kind && (ab x.item i || ab x.item (-1)))
theorem Lb (x:PItem) (a i:Int):kP 120 [eI x,iV a,iV i] (.bool (qE x a i)):=by
  have hlk:=zQ
  have rr0 b' (h:(qE x a i)=b':=by unfold qE;generalize ab x.act a=p1 at *;generalize ab x.kind 11=p2 at *;generalize ab x.item i=p3 at *;generalize ab x.item (-1)=p4 at *;generalize kB x.kind=p5 at *;simp only [aS,ax,bS, *]):=h;let q:= [ak [iV x.kind,aX (x.at_.map az),aX (x.to.map az),iV x.where_,iV x.nth_,iV x.unit.act,iV x.unit.item,iV x.unit.n,iV x.unit.kind,aj x.unit.label,aX (x.unit.head.map aQ),aX (x.unit.words.map aQ),aX (x.unit.kids.map aV),aX (x.old.map mT),aX (x.new.map mT),aj x.label,aj x.for_,iV x.start.kind,iV x.start.day,aj x.start.event,iV x.act,iV x.item,iV x.day,aj x.event,aX (x.by_.map ME)]];let q1:=bU (bY 214) [] [];exact bB Tryz.func120<|Kc 5 x.act a (fun _ _=>Ky 0<|rr0 false) fun _ _=>Kj 2 x.kind 11 (fun _ _=>Kf 4<|ce<|rr0<|ab x.item i) fun _ _=>M3 (.efx true (AV.map 1)<|ay [aZ 25 false 0 q,AObj.map [AEnt.mk (iV 7) q1 0,AEnt.mk (iV 9) q1 1,AEnt.mk (iV 8) (bU (bY 216) [] []) 2] 3]) (et rt ti) (et (aU<|some<|aZ 25 false 0 q) ti) (Rp x)<|K1 1 (.look<|ca [rl x.kind,eH<|kB x.kind]) (hlk x.kind)<|Kb 6 (kB x.kind) (fun b=>Kt 0 b<|Kt 0 b<|Kt 0 b<|Kt 0 b<|Kj 0 x.item i (fun c _=>Mt c<|Mt c<|Mt b<|MV c<|MV b<|Ky 0<|rr0 true) fun c _=>Kh 0 c<|Kh 0 c<|Kt 0 b<|My c<|MV b<|Kf 0<|ce<|rr0<|ab x.item (-1)) fun b=>Mh b<|Mh b<|Mh b<|Mh b<|Mh b<|My b<|Ky 0<|rr0 false
noncomputable abbrev gu (nm:aP):AObj:= .row 1 false 0 [.str nm]
noncomputable def rF (nm:aP) (d:PDeed):Bool:=ab d.it.kind 10 && dg d.it.event nm
theorem QU (nm:aP) (d:PDeed):kD 280 [aY d, .ptr 0 0 0 0] (ay [gu nm]) (.bool (rF nm d)) (ay [gu nm]):=by
  let q:=ay [aZ 1 false 0 [aj nm]];exact Re Tryz.func280<|Kj 6 d.it.kind 10 (fun a _=>Kt 0 a<|Kt 0 a<|Kt 0 a<|Kt 0 a<|Ku 0 a<|K1 0 (.frz 1 [3]) (et rt ti)<|Mf<|et (by unfold rF;generalize ab d.it.kind 10=p1 at *;generalize dg d.it.event nm=p2 at *;simp only [aS,ax,bS, *]:(AV.bool (dg d.it.event nm))=(AV.bool (rF nm d)))<|aU q) fun a _=>Mh a<|Mh a<|Mh a<|Mh a<|My a<|K1 0 (.frz 1 [3]) (et rt ti)<|Mf<|et (by unfold rF;generalize ab d.it.kind 10=p1 at *;generalize dg d.it.event nm=p2 at *;simp only [aS,ax,bS, *]:(AV.bool false)=(AV.bool (rF nm d)))<|aU q
noncomputable def jX (nm:aP):List PDeed→Nat→Int
  | [],_=> -1
  | d::r,i=>match rF nm d with | true=>Int.ofNat i | false=>jX nm r (i+1)
theorem J9 (nm:aP) : ∀ (l:List PDeed) (i:Nat),jX nm l i<Int.ofNat (i+l.length)∧(0≤jX nm l i∨jX nm l i = -1)
  | [],i=>⟨by simp only [jX,oN];omega, .inr rfl⟩
  | d::r,i=>by
    have:=J9 nm r (i+1)
    cases h:rF nm d <;> simp only [jX,h,oN,lC] at * <;> omega
theorem XU {nm:aP} {d:PDeed} {r:List PDeed} {i:Nat} (h:rF nm d=true):jX nm (d::r) i=Int.ofNat i:=by simp only [jX,h]
theorem Xq {nm:aP} {d:PDeed} {r:List PDeed} {i:Nat} (h:rF nm d=false):jX nm (d::r) i=jX nm r (i+1):=by simp only [jX,h]
theorem CZ (nm:aP) (l:List PDeed) (hl:l.length<2 ^ 40):kD 279 [.ls (l.map aY), .func (.func 280) [] [.ptr 0 0 0 0]] (ay [gu nm]) (iV (jX nm l 0)) (ay [gu nm]):=by
  let q:=ay [aZ 1 false 0 [aj nm]];exact Re Tryz.func279<|Kl 2 7 (ln aY l)<|Mg 0<|rf aY l [0,1,7,8] (fun a _=>([aX<|l.map aY,bU (bY 280) [] [aR 0 0 0 0],nV l.length,nV a],[aZ 1 false 0 [aj nm]])) (fun a=>jX nm l (0:Nat)=jX nm a (l.length - a.length)) (by (rw [Nat.sub_self])) (fun _ _ _ _ _ a b=>Kh 0 a<|Kf 0<|et (by (rw [b];rfl):(iV (-1))=(iV (jX nm l 0)))<|aU q) fun a _ b _ c d e f g _ h i=>have :=iY b f;Kt 0 g<|Kx 4 h<|Ke 0 (QU nm c)<|Mb (rF nm c) (fun _=>Kf 1<|et (by (rw [i,XU (by assumption)];congr 2;have z:=Hs (b.trans f) (by simp) (by simp only [lC];omega:(l.length - (d.length+1))+(c::d).length=l.length);exact z):(nV a)=(iV (jX nm l 0)))<|aU q) fun _=>Kl 0 18 (dj a)<|Kf 0<|e<|by (rw [i,Xq (by assumption)];congr 1;have:=iY b f;simp only [lC];omega)
theorem QY (d:Int):kP 214 [.nils,iV d] (.ls ((ph [] d).map aK)):=(QV [] d (by simp)).onArgs (.cons Le.nils (.cons (Le.refl _) .nil))
theorem Ig (nm:aP) (l:List PDeed) (hl:l.length<2 ^ 40) (h:aB (jX nm l 0) 0=true):kP 215 [.str nm, .ls (l.map aY)] (.tuple [iV 0, .bool false]):=by
  exact bB Tryz.func215<|Ke 4 (CZ nm l hl)<|Kt 2 h<|Kf 1<|bg<|ca [iV 0,eH false]
theorem Ih (nm:aP) (l:List PDeed) (hl:l.length<2 ^ 40) (h:aB (jX nm l 0) 0=false):kP 215 [.str nm, .ls (l.map aY)] (.tuple [iV (gD l (jX nm l 0).toNat).it.day, .bool true]):=by
  have g1:=aL h
  have g2:=(J9 nm l 0).1
  exact bB Tryz.func215<|Ke 4 (CZ nm l hl)<|Kh 2 h<|Kl 1 13 (Ag (x:=jX nm l 0) oA)<|Mx (aT aY (by (simp only [oN,lM,lS] at *;omega):(jX nm l 0).toNat<(l).length))<|Kf 4<|bg<|ca [iV (gD l (jX nm l 0).toNat).it.day,eH true]
noncomputable def lX (s:PStart) (l:List PDeed):List PSpan:=match ab s.kind 1 with | true=>ph [] s.day | false=>match ab s.kind 3 with | true=>(match aB (jX s.event l 0) 0 with | true=> [] | false=>ph [] (gD l (jX s.event l 0).toNat).it.day) | false=> []
theorem L2 (s:PStart) (l:List PDeed) (hl:l.length<2 ^ 40) (hi:aB (jX s.event l 0) 0=true):kP 117 [ap s, .ls (l.map aY)] (.ls ((lX s l).map aK)):=by
  have he:=Ig s.event l hl hi
  have e:lX s l=match ab s.kind 1 with | true=>ph [] s.day | false=> []:=(by unfold lX;rw [hi];cases ab s.kind 1 <;> cases ab s.kind 3 <;> rfl)
  rw [e]
  have rr0 b' (h:((match ab s.kind 1 with | true=>ph [] s.day | false=> []).map aK)=b':=by generalize ab s.kind 1=p1 at *;(rw [h0]);try rfl):=h;exact bB Tryz.func117<|Kj 5 s.kind 1 (fun h0 _=>Kp 1 (QY s.day)<|Kf 0<|b9<|rr0<|(ph [] s.day).map aK) fun h0 _=>Kj 1 s.kind 3 (fun _ _=>Kp 2 he<|Kf 7 (Le.lsn<|rr0 []:Le _ (aa))) fun _ _=>Kf 0 (Le.lsn<|rr0 []:Le _ (aa))
theorem L3 (s:PStart) (l:List PDeed) (hl:l.length<2 ^ 40) (hi:aB (jX s.event l 0) 0=false):kP 117 [ap s, .ls (l.map aY)] (.ls ((lX s l).map aK)):=by
  have he:=Ih s.event l hl hi
  have e:lX s l=match ab s.kind 1 with | true=>ph [] s.day | false=>match ab s.kind 3 with | true=>ph [] (gD l (jX s.event l 0).toNat).it.day | false=> []:=(by unfold lX;rw [hi])
  rw [e]
  have rr0 b' (h:((match ab s.kind 1 with | true=>ph [] s.day | false=>match ab s.kind 3 with | true=>ph [] (gD l (jX s.event l 0).toNat).it.day | false=> []).map aK)=b':=by generalize ab s.kind 1=p1 at *;generalize ab s.kind 3=p3 at *;(rw [h0]);(first | rw [h1] | skip);try rfl):=h;exact bB Tryz.func117<|Kj 5 s.kind 1 (fun h0 _=>Kp 1 (QY s.day)<|Kf 0<|b9<|rr0<|(ph [] s.day).map aK) fun h0 _=>Kj 1 s.kind 3 (fun h1 _=>Kp 2 he<|Kp 7 (QY (gD l (jX s.event l 0).toNat).it.day)<|Kf 0<|b9<|rr0<|(ph [] (gD l (jX s.event l 0).toNat).it.day).map aK) fun h1 _=>Kf 0 (Le.lsn<|rr0 []:Le _ (aa))
theorem IY (s:PStart) (l:List PDeed) (hl:l.length<2 ^ 40):kP 117 [ap s, .ls (l.map aY)] (.ls ((lX s l).map aK)):=by
  cases hi:aB (jX s.event l 0) 0
  · exact L3 s l hl hi
  · exact L2 s l hl hi
noncomputable def rT (d o:PDeed) (days:List PSpan):List PSpan:=match kB o.it.kind && qE o.it d.act d.item with | true=>(match rC o.it.kind with | true=>ph days o.it.day | false=>oh days o.it.day) | false=>days
noncomputable def lr (d:PDeed):List PDeed→List PSpan→List PSpan
  | [],days=>days
  | o::r,days=>lr d r (rT d o days)
noncomputable def da (s:PStart) (d:PDeed) (l:List PDeed):List PSpan:=match aB d.it.kind 0 || aB 6 d.it.kind with | true=> [] | false=>lr d l (lX (effS s d.it.start) l)
theorem L4 (s:PStart) (l:List PDeed):(lX s l).length≤1048577:=by
  have h:=fun d=>(tL [] d).len
  unfold lX
  cases ab s.kind 1 <;> cases ab s.kind 3 <;> cases aB (jX s.event l 0) 0 <;> simp only [lN] <;> first | exact h _ | omega
theorem mI (s:PStart) (d:PDeed) (l:List PDeed) (hl:l.length<2 ^ 40):kP 66 [ap s,aY d, .ls (l.map aY)] (.ls ((da s d l).map aK)):=by
  have hlk:=zQ
  have hle1 : ∀ k,rC k=true→Le (.func (.func 214) [] []) (rl k):=fun k h=>NN h
  have hle2 : ∀ k,rC k=false→kB k=true→Le (.func (.func 216) [] []) (rl k):=fun k h h2=>Rs h h2
  have hil:=L4 (effS s d.it.start) l
  have hin : ∀ b,(aB d.it.kind 0 || aB 6 d.it.kind)=b→da s d l=match b with | true=> [] | false=>lr d l (lX (effS s d.it.start) l):=fun b h=>by unfold da;rw [h]
  have hst : ∀ (o:PDeed) (r:List PDeed) (days:List PSpan),lr d (o::r) days=lr d r (rT d o days):=fun o r days=>rfl
  have rr0 b' (h:((da s d l).map aK)=b':=by first | (rw [hin true (by simp only [aS,ax,bS, *];try rfl)];rfl) | (rw [hin false (by simp only [aS,ax,bS, *];try rfl)];first | exact congrArg _ hj0.2 | exact congrArg _ hj0.2.symm | (rw [hj0.2];rfl))):=h;let q1:= [ak [iV d.act,iV d.item,iV d.day,iV d.it.kind,aX (d.it.at_.map az),aX (d.it.to.map az),iV d.it.where_,iV d.it.nth_,iV d.it.unit.act,iV d.it.unit.item,iV d.it.unit.n,iV d.it.unit.kind,aj d.it.unit.label,aX (d.it.unit.head.map aQ),aX (d.it.unit.words.map aQ),aX (d.it.unit.kids.map aV),aX (d.it.old.map mT),aX (d.it.new.map mT),aj d.it.label,aj d.it.for_,iV d.it.start.kind,iV d.it.start.day,aj d.it.start.event,iV d.it.act,iV d.it.item,iV d.it.day,aj d.it.event,aX (d.it.by_.map ME)]];let q2:= [ak [iV s.kind,iV s.day,aj s.event]];let q3:=bU (bY 214) [] [];exact bB Tryz.func66<|Ka 7 d.it.kind 0 (fun a _=>Mt a<|Mt a<|Mt a<|MV a<|Kf 1 (Le.lsn<|rr0 []:Le _ (aa))) fun a _=>Kh 0 a<|Kh 0 a<|Kh 0 a<|Kw 0 a<|Mb (aB 6 d.it.kind) (fun a=>have :=au a;Kf 0 (Le.lsn<|rr0 []:Le _ (aa))) fun a=>have :=aL a;Kp 3 (Gn s d.it.start)<|Kp 0 (IY (effS s d.it.start) l hl)<|Kl 2 30 (ln aY l)<|Mg 0<|Ul (0:Nat) l (lX (effS s d.it.start) l) [4,7,29,30,31] (fun a _ c=>([aR 1 0 0 0,aX<|c.map aK,aX<|l.map aY,nV l.length,nV a],[aZ 3 false 0 [ak [iV s.kind,iV s.day,aj s.event]],aZ 28 false 0 [ak [iV d.act,iV d.item,iV d.day,iV d.it.kind,aX<|d.it.at_.map az,aX<|d.it.to.map az,iV d.it.where_,iV d.it.nth_,iV d.it.unit.act,iV d.it.unit.item,iV d.it.unit.n,iV d.it.unit.kind,aj d.it.unit.label,aX<|d.it.unit.head.map aQ,aX<|d.it.unit.words.map aQ,aX<|d.it.unit.kids.map aV,aX<|d.it.old.map mT,aX<|d.it.new.map mT,aj d.it.label,aj d.it.for_,iV d.it.start.kind,iV d.it.start.day,aj d.it.start.event,iV d.it.act,iV d.it.item,iV d.it.day,aj d.it.event,aX<|d.it.by_.map ME]]])) (fun a c e=>(l).drop a=c∧e.length≤1048577∧lr d l (lX (effS s d.it.start) l)=lr d c e) (fun _ a _=>a.length) (et rfl<|by (exact ⟨hil,rfl⟩)) fun a c e f g=>Mc c (fun a=>have c:=fP f.1 a;have hj0:=ic (J:=fun a c=>c.length≤1048577∧lr d l (lX (effS s d.it.start) l)=lr d a c) (a:=e) a f.2;Kh 0 c<|Kf 1<|b9<|rr0<|e.map aK) fun c i j=>let m:=[ak [iV c.act,iV c.item,iV c.day,iV c.it.kind,aX<|c.it.at_.map az,aX<|c.it.to.map az,iV c.it.where_,iV c.it.nth_,iV c.it.unit.act,iV c.it.unit.item,iV c.it.unit.n,iV c.it.unit.kind,aj c.it.unit.label,aX<|c.it.unit.head.map aQ,aX<|c.it.unit.words.map aQ,aX<|c.it.unit.kids.map aV,aX<|c.it.old.map mT,aX<|c.it.new.map mT,aj c.it.label,aj c.it.for_,iV c.it.start.kind,iV c.it.start.day,aj c.it.start.event,iV c.it.act,iV c.it.item,iV c.it.day,aj c.it.event,aX<|c.it.by_.map ME]];have n:=gX f.1 j;have :=au n;have p:=fO (enc:=aY) f.1 j;have hj0:=cW (J:=fun a c=>c.length≤1048577∧lr d l (lX (effS s d.it.start) l)=lr d a c) (a:=e) j f.2;Kt 0 n<|Mx p<|Mg 2<|M3 (.efx true (AV.map 3)<|ay [aZ 3 false 0 q2,aZ 28 false 0 q1,aZ 28 false 0 m,AObj.map [AEnt.mk (iV 7) q3 0,AEnt.mk (iV 9) q3 1,AEnt.mk (iV 8) (bU (bY 216) [] []) 2] 3]) (kx rt rt rt ti) (kx (aU<|some<|aZ 28 false 0 m) (aU<|some<|aZ 28 false 0 q1) (aU<|some<|aZ 3 false 0 q2) ti) (Rr s d c)<|K1 2 (.look<|ca [rl c.it.kind,eH<|kB c.it.kind]) (hlk c.it.kind)<|Kb 6 (kB c.it.kind) (fun m=>Kt 0 m<|Kt 0 m<|Kt 0 m<|Kt 0 m<|Kt 0 m<|Kt 0 m<|Mp (Lb c.it d.act d.item)<|MV m<|Mb (qE c.it d.act d.item) (fun _=>Ks 4 (rC c.it.kind) (fun m=>Ml 53 (hle1 c.it.kind m)<|Mp (QV e c.it.day oA)<|Kl 1 59 (dj a)<|K1 0 (.frz 2 [4,7,29,30,31]) (cp rt rt ti)<|Mf<|g (a+1) i (ph e c.it.day) (et (bM f.1 j)<|by exact ⟨(tL _ _).len,by rw [hj0.2,hst];simp only [rT, *];rfl⟩)<|fk j) fun n=>Ml 53 (hle2 c.it.kind n m)<|Mp (Eo e c.it.day oA)<|Kl 1 59 (dj a)<|K1 0 (.frz 2 [4,7,29,30,31]) (cp rt rt ti)<|Mf<|g (a+1) i (oh e c.it.day) (et (bM f.1 j)<|by exact ⟨(rO _ _).len,by rw [hj0.2,hst];simp only [rT, *];rfl⟩)<|fk j) fun _=>Kl 0 59 (dj a)<|K1 0 (.frz 2 [4,7,29,30,31]) (cp rt rt ti)<|Mf<|g (a+1) i e (et (bM f.1 j)<|by exact ⟨hj0.1,by rw [hj0.2,hst];simp only [rT,aS,ax,bS, *];try rfl⟩)<|fk j) fun c=>Mh c<|Mh c<|Mh c<|Mh c<|Mh c<|Mh c<|My c<|Kl 1 59 (dj a)<|K1 0 (.frz 2 [4,7,29,30,31]) (cp rt rt ti)<|Mf<|g (a+1) i e (et (bM f.1 j)<|by exact ⟨hj0.1,by rw [hj0.2,hst];simp only [rT,aS,ax,bS, *];try rfl⟩)<|fk j
noncomputable abbrev ip (d:Int):AObj:= .row 1 false 0 [iV d]
noncomputable abbrev qz:AObj:= .row 1 false 0 [.nils]
noncomputable abbrev pi (i ep n:Nat):AObj:= .row 1 false 0 [.slice i ep 0 n none]
noncomputable abbrev dq (m:List (Int × PStart)):AObj:= .map (bO ap m 0) m.length
noncomputable abbrev gp (d:PDeed):AObj:= .row 28 false 0 [aY d]
noncomputable abbrev pg (ep:Nat) (l:List PDeed):AObj:= .row 28 true ep (l.map aY)
def dC:PStart:=⟨0,0, []⟩
def cT (m:List (Int × PStart)) (k:Int):PStart:=(gg k m).getD dC
theorem zZ (m:List (Int × PStart)) (k:Int):eF (some (.agg [iV 0,iV 0, .str []])) false (bv false 1 [(0,1)] (iV k) (bO ap m 0) 0)=some (ap (cT m k)):=by
  rw [zW]
  cases h:gg k m <;> simp only [cT,h,Option.getD] <;> rfl
theorem Bw (m:List (Int × PStart)) (a:PAct):rk (bO ap m 0) m.length (iV a.number) (.agg [iV a.start.kind,iV a.start.day, .str a.start.event]) (bv false 1 [(0,1)] (iV a.number) (bO ap m 0) 0)=some (bO ap (ko a.number a.start m) 0,(ko a.number a.start m).length):=Bv (f:=ap) a.number a.start m
/-- The starts of the acts by their numbers. -/
def wN (l:List PAct) (m:List (Int × PStart)):List (Int × PStart):=l.foldl (fun m a=>ko a.number a.start m) m
theorem FM (s:PStart) (d:PDeed) (l:List PDeed):NrmS (da s d l):=by
  have h1 : ∀ (s:PStart),NrmS (lX s l):=fun s=>by
    unfold lX
    cases ab s.kind 1 <;> cases ab s.kind 3 <;> cases aB (jX s.event l 0) 0 <;> first | exact xd | exact tL _ _
  have h2 : ∀ (r:List PDeed) (days:List PSpan),NrmS days→NrmS (lr d r days):=by
    intro r
    induction r with
    | nil=>intro days h;exact h
    | cons o r ih=>
      intro days h
      refine ih _ ?_
      unfold rT
      cases kB o.it.kind && qE o.it d.act d.item <;> cases rC o.it.kind <;> first | exact h | exact tL _ _ | exact rO _ _
  unfold da
  cases aB d.it.kind 0 || aB 6 d.it.kind
  · exact h2 l _ (h1 _)
  · exact xd
theorem sl (s:PStart) (d:PDeed) (l:List PDeed) (day:Int):kP 41 [.ls ((da s d l).map aK),iV day] (.bool (iw (da s d l) day)):=by
  have hn:=FM s d l
  have h:=GF (da s d l) day (pz hn.len (by decide))
  rwa [show iR (da s d l)=da s d l from (Sw hn).symm] at h
/-- Whether an amendment is told: its purpose, its days. -/
noncomputable def L8 (p:aP) (d:PDeed):Bool:=dg d.it.for_ [] || dg d.it.for_ p
noncomputable def yC (day:Int) (p:aP) (m:List (Int × PStart)) (ds:List PDeed) (d:PDeed):Bool:=L8 p d && iw (da (cT m d.act) d ds) day
noncomputable def ry (day:Int) (p:aP) (m:List (Int × PStart)) (ds l:List PDeed):List PDeed:=l.filter fun d=>fy d.it.kind && yC day p m ds d
theorem X9 (d:PDeed) (ss:List PSpan) (day:Int) (p:aP) (m:List (Int × PStart)) (hc:kP 41 [.ls (ss.map aK),iV day] (.bool false)):kD 40 [aY d, .ls (ss.map aK), .ptr 1 0 0 0, .ptr 0 0 0 0, .ptr 2 0 0 0] (ay [ip day,gu p,qz,dq m,gp d]) (.tuple []) (ay [ip day,gu p,qz,dq m,gp d]):=by
  exact gQ Tryz.func40 fun a=>Kb 5 (dg d.it.for_ (ByteArray.mk #[]).data.toList) (fun b=>Mt b<|Mt b<|Mt b<|Mt b<|MV b<|Kp 2 hc<|K1 1 (.frz 5 []) (xo rt (tM m.length 5<|aE (f:=ap) (fun _=>rfl) m 0) rt rt rt ti)<|Mf a) fun b=>Kh 0 b<|Kh 0 b<|Kh 0 b<|Kh 0 b<|Kw 0 b<|Kb 0 (dg d.it.for_ p) (fun b=>Kt 0 b<|Kt 0 b<|Mp hc<|MV b<|K1 0 (.frz 5 []) (xo rt (tM m.length 5<|aE (f:=ap) (fun _=>rfl) m 0) rt rt rt ti)<|Mf a) fun b=>Mh b<|Mh b<|My b<|K1 0 (.frz 5 []) (xo rt (tM m.length 5<|aE (f:=ap) (fun _=>rfl) m 0) rt rt rt ti)<|Mf a
theorem X8 (d:PDeed) (ss:List PSpan) (day:Int) (p:aP) (m:List (Int × PStart)) (h1:dg d.it.for_ []=false) (h2:dg d.it.for_ p=false):kD 40 [aY d, .ls (ss.map aK), .ptr 1 0 0 0, .ptr 0 0 0 0, .ptr 2 0 0 0] (ay [ip day,gu p,qz,dq m,gp d]) (.tuple []) (ay [ip day,gu p,qz,dq m,gp d]):=by
  exact gQ Tryz.func40 fun a=>Kh 5 h1<|Kh 0 h1<|Kh 0 h1<|Kh 0 h1<|Kh 0 h1<|Kw 0 h1<|Kh 0 h2<|Mh h2<|Mh h2<|My h2<|K1 0 (.frz 5 []) (xo rt (tM m.length 5<|aE (f:=ap) (fun _=>rfl) m 0) rt rt rt ti)<|Mf a
theorem X7 (d:PDeed) (ss:List PSpan) (day:Int) (p:aP) (m:List (Int × PStart)) (hc:kP 41 [.ls (ss.map aK),iV day] (.bool true)) (h1:dg d.it.for_ []=true):kD 40 [aY d, .ls (ss.map aK), .ptr 1 0 0 0, .ptr 0 0 0 0, .ptr 2 0 0 0] (ay [ip day,gu p,qz,dq m,gp d]) (.tuple []) (ay [ip day,gu p,pi 5 0 1,dq m,gp d,pg 0 [d]]):=by
  exact gQ Tryz.func40 fun a=>Kt 5 h1<|Mt h1<|Mt h1<|Mt h1<|Mt h1<|MV h1<|Kp 2 hc<|K1 6 (.ren [0,1,2,3,4,6,5] [3] []) (tN m.length<|aE (f:=ap) (fun _=>rfl) m 0)<|M1 (.frz 6 []) (MA rt rt (tM m.length 6<|aE (f:=ap) (fun _=>rfl) m 0) rt rt rt ti)<|Mf a
theorem X6 (d:PDeed) (ss:List PSpan) (day:Int) (p:aP) (m:List (Int × PStart)) (hc:kP 41 [.ls (ss.map aK),iV day] (.bool true)) (h1:dg d.it.for_ []=false) (h2:dg d.it.for_ p=true):kD 40 [aY d, .ls (ss.map aK), .ptr 1 0 0 0, .ptr 0 0 0 0, .ptr 2 0 0 0] (ay [ip day,gu p,qz,dq m,gp d]) (.tuple []) (ay [ip day,gu p,pi 5 0 1,dq m,gp d,pg 0 [d]]):=by
  exact gQ Tryz.func40 fun a=>Kh 5 h1<|Kh 0 h1<|Kh 0 h1<|Kh 0 h1<|Kh 0 h1<|Kw 0 h1<|Kt 0 h2<|Kt 0 h2<|Kt 0 h2<|Mp hc<|MV h2<|K1 5 (.ren [0,1,2,3,4,6,5] [3] []) (tN m.length<|aE (f:=ap) (fun _=>rfl) m 0)<|M1 (.frz 6 []) (MA rt rt (tM m.length 6<|aE (f:=ap) (fun _=>rfl) m 0) rt rt rt ti)<|Mf a
theorem X5 (d:PDeed) (ss:List PSpan) (day:Int) (p:aP) (m:List (Int × PStart)) (ep n:Nat) (out:List PDeed) (hc:kP 41 [.ls (ss.map aK),iV day] (.bool false)):kD 40 [aY d, .ls (ss.map aK), .ptr 1 0 0 0, .ptr 0 0 0 0, .ptr 2 0 0 0] (ay [ip day,gu p,pi 4 ep n,dq m,pg ep out,gp d]) (.tuple []) (ay [ip day,gu p,pi 4 ep n,dq m,pg ep out,gp d]):=by
  exact gQ Tryz.func40 fun a=>Kb 5 (dg d.it.for_ (ByteArray.mk #[]).data.toList) (fun b=>Mt b<|Mt b<|Mt b<|Mt b<|MV b<|Kp 2 hc<|K1 1 (.frz 6 []) (MA rt (tR 28 true ep 6<|aW wg out) (tM m.length 6<|aE (f:=ap) (fun _=>rfl) m 0) rt rt rt ti)<|Mf a) fun b=>Kh 0 b<|Kh 0 b<|Kh 0 b<|Kh 0 b<|Kw 0 b<|Kb 0 (dg d.it.for_ p) (fun b=>Kt 0 b<|Kt 0 b<|Mp hc<|MV b<|K1 0 (.frz 6 []) (MA rt (tR 28 true ep 6<|aW wg out) (tM m.length 6<|aE (f:=ap) (fun _=>rfl) m 0) rt rt rt ti)<|Mf a) fun b=>Mh b<|Mh b<|My b<|K1 0 (.frz 6 []) (MA rt (tR 28 true ep 6<|aW wg out) (tM m.length 6<|aE (f:=ap) (fun _=>rfl) m 0) rt rt rt ti)<|Mf a
theorem X4 (d:PDeed) (ss:List PSpan) (day:Int) (p:aP) (m:List (Int × PStart)) (ep n:Nat) (out:List PDeed) (h1:dg d.it.for_ []=false) (h2:dg d.it.for_ p=false):kD 40 [aY d, .ls (ss.map aK), .ptr 1 0 0 0, .ptr 0 0 0 0, .ptr 2 0 0 0] (ay [ip day,gu p,pi 4 ep n,dq m,pg ep out,gp d]) (.tuple []) (ay [ip day,gu p,pi 4 ep n,dq m,pg ep out,gp d]):=by
  exact gQ Tryz.func40 fun a=>Kh 5 h1<|Kh 0 h1<|Kh 0 h1<|Kh 0 h1<|Kh 0 h1<|Kw 0 h1<|Kh 0 h2<|Mh h2<|Mh h2<|My h2<|K1 0 (.frz 6 []) (MA rt (tR 28 true ep 6<|aW wg out) (tM m.length 6<|aE (f:=ap) (fun _=>rfl) m 0) rt rt rt ti)<|Mf a
theorem X3 (d:PDeed) (ss:List PSpan) (day:Int) (p:aP) (m:List (Int × PStart)) (ep n:Nat) (out:List PDeed) (hn:n=out.length) (hn2:n<2 ^ 20) (hc:kP 41 [.ls (ss.map aK),iV day] (.bool true)) (h1:dg d.it.for_ []=true):kD 40 [aY d, .ls (ss.map aK), .ptr 1 0 0 0, .ptr 0 0 0 0, .ptr 2 0 0 0] (ay [ip day,gu p,pi 4 ep n,dq m,pg ep out,gp d]) (.tuple []) (ay [ip day,gu p,pi 4 (ep+1) (n+1),dq m,pg (ep+1) (out++ [d]),gp d]):=by
  exact gQ Tryz.func40 fun a=>Kt 5 h1<|Mt h1<|Mt h1<|Mt h1<|Mt h1<|MV h1<|Kp 2 hc<|K1 4 .app (cp (aU ep) (by (rw [lM];exact hn):n=(out.map aY).length) (by exact ei (m:=2 ^ 21) (by omega) (by decide) (by decide):small (n+1) 392=true))<|M1 (.obj 4<|aZ 28 true (ep+1)<|(out++ [d]).map aY) (congrArg (aZ 28 true<|ep+1)<|cC (f:=aY) (l:=out) (ws:=[d]))<|K1 0 (.frz 6 []) (MA rt (tR 28 true (ep+1) 6<|aW wg<|out++ [d]) (tM m.length 6<|aE (f:=ap) (fun _=>rfl) m 0) rt rt rt ti)<|Mf a
theorem X1 (d:PDeed) (ss:List PSpan) (day:Int) (p:aP) (m:List (Int × PStart)) (ep n:Nat) (out:List PDeed) (hn:n=out.length) (hn2:n<2 ^ 20) (hc:kP 41 [.ls (ss.map aK),iV day] (.bool true)) (h1:dg d.it.for_ []=false) (h2:dg d.it.for_ p=true):kD 40 [aY d, .ls (ss.map aK), .ptr 1 0 0 0, .ptr 0 0 0 0, .ptr 2 0 0 0] (ay [ip day,gu p,pi 4 ep n,dq m,pg ep out,gp d]) (.tuple []) (ay [ip day,gu p,pi 4 (ep+1) (n+1),dq m,pg (ep+1) (out++ [d]),gp d]):=by
  exact gQ Tryz.func40 fun a=>Kh 5 h1<|Kh 0 h1<|Kh 0 h1<|Kh 0 h1<|Kh 0 h1<|Kw 0 h1<|Kt 0 h2<|Kt 0 h2<|Kt 0 h2<|Mp hc<|MV h2<|K1 3 .app (cp (aU ep) (by (rw [lM];exact hn):n=(out.map aY).length) (by exact ei (m:=2 ^ 21) (by omega) (by decide) (by decide):small (n+1) 392=true))<|M1 (.obj 4<|aZ 28 true (ep+1)<|(out++ [d]).map aY) (congrArg (aZ 28 true<|ep+1)<|cC (f:=aY) (l:=out) (ws:=[d]))<|K1 0 (.frz 6 []) (MA rt (tR 28 true (ep+1) 6<|aW wg<|out++ [d]) (tM m.length 6<|aE (f:=ap) (fun _=>rfl) m 0) rt rt rt ti)<|Mf a
theorem UY {day:Int} {p:aP} {m:List (Int × PStart)} {ds:List PDeed} {d:PDeed} (h:yC day p m ds d=false):kP 41 [.ls ((da (cT m d.act) d ds).map aK),iV day] (.bool false)∨(dg d.it.for_ []=false∧dg d.it.for_ p=false):=by
  unfold yC L8 at h
  have hz:=sl (cT m d.act) d ds day
  cases q:iw (da (cT m d.act) d ds) day with
  | false=>rw [q] at hz;exact .inl hz
  | true=>rw [q,Bool.and_true,BW] at h;exact .inr h
theorem OA {day:Int} {p:aP} {m:List (Int × PStart)} {ds:List PDeed} {d:PDeed} (h:yC day p m ds d=true):kP 41 [.ls ((da (cT m d.act) d ds).map aK),iV day] (.bool true)∧(dg d.it.for_ []=true∨(dg d.it.for_ []=false∧dg d.it.for_ p=true)):=by
  unfold yC L8 at h
  obtain ⟨h1,h2⟩:=nL.1 h
  have hz:=sl (cT m d.act) d ds day
  rw [h2] at hz
  refine ⟨hz,?_⟩
  cases q:dg d.it.for_ [] with
  | true=>exact .inl rfl
  | false=>rw [q,Bool.false_or] at h1;exact .inr ⟨rfl,h1⟩
theorem WT (day:Int) (p:aP) (m:List (Int × PStart)) (ds:List PDeed) (d:PDeed) (hb:yC day p m ds d=false):kD 40 [aY d, .ls ((da (cT m d.act) d ds).map aK), .ptr 1 0 0 0, .ptr 0 0 0 0, .ptr 2 0 0 0] (ay [ip day,gu p,qz,dq m,gp d]) (.tuple []) (ay [ip day,gu p,qz,dq m,gp d]):=by
  rcases UY hb with h | ⟨h1,h2⟩
  · exact X9 d _ day p m h
  · exact X8 d _ day p m h1 h2
theorem YW (day:Int) (p:aP) (m:List (Int × PStart)) (ds:List PDeed) (d:PDeed) (hb:By (yC day p m ds d) false):kD 40 [aY d, .ls ((da (cT m d.act) d ds).map aK), .ptr 1 0 0 0, .ptr 0 0 0 0, .ptr 2 0 0 0] (ay [ip day,gu p,qz,dq m,gp d]) (.tuple []) (ay [ip day,gu p,qz,dq m,gp d]):=WT day p m ds d hb
theorem YX (day:Int) (p:aP) (m:List (Int × PStart)) (ds:List PDeed) (d:PDeed) (hb:By (yC day p m ds d) true):kD 40 [aY d, .ls ((da (cT m d.act) d ds).map aK), .ptr 1 0 0 0, .ptr 0 0 0 0, .ptr 2 0 0 0] (ay [ip day,gu p,qz,dq m,gp d]) (.tuple []) (ay [ip day,gu p,pi 5 0 1,dq m,gp d,pg 0 [d]]):=by
  obtain ⟨h,h1 | ⟨h1,h2⟩⟩:=OA hb
  · exact X7 d _ day p m h h1
  · exact X6 d _ day p m h h1 h2
theorem YZ (day:Int) (p:aP) (m:List (Int × PStart)) (ds:List PDeed) (d:PDeed) (ep n:Nat) (out:List PDeed) (hb:By (yC day p m ds d) false):kD 40 [aY d, .ls ((da (cT m d.act) d ds).map aK), .ptr 1 0 0 0, .ptr 0 0 0 0, .ptr 2 0 0 0] (ay [ip day,gu p,pi 4 ep n,dq m,pg ep out,gp d]) (.tuple []) (ay [ip day,gu p,pi 4 ep n,dq m,pg ep out,gp d]):=by
  rcases UY hb with h | ⟨h1,h2⟩
  · exact X5 d _ day p m ep n out h
  · exact X4 d _ day p m ep n out h1 h2
theorem YQ (day:Int) (p:aP) (m:List (Int × PStart)) (ds:List PDeed) (d:PDeed) (ep n:Nat) (out:List PDeed) (hb:By (yC day p m ds d) true) (hn:n=out.length) (hn2:n<2 ^ 20):kD 40 [aY d, .ls ((da (cT m d.act) d ds).map aK), .ptr 1 0 0 0, .ptr 0 0 0 0, .ptr 2 0 0 0] (ay [ip day,gu p,pi 4 ep n,dq m,pg ep out,gp d]) (.tuple []) (ay [ip day,gu p,pi 4 (ep+1) (n+1),dq m,pg (ep+1) (out++ [d]),gp d]):=by
  obtain ⟨h,h1 | ⟨h1,h2⟩⟩:=OA hb
  · exact X3 d _ day p m ep n out hn hn2 h h1
  · exact X1 d _ day p m ep n out hn hn2 h h1 h2
theorem OD {day:Int} {p:aP} {m:List (Int × PStart)} {ds r:List PDeed} {d:PDeed} (h:fy d.it.kind=false):ry day p m ds (d::r)=ry day p m ds r:=by simp only [ry,List.filter_cons,h,Bool.false_and];rfl
theorem OC {day:Int} {p:aP} {m:List (Int × PStart)} {ds r:List PDeed} {d:PDeed} (h:yC day p m ds d=false):ry day p m ds (d::r)=ry day p m ds r:=by simp only [ry,List.filter_cons,h,vu];rfl
theorem OB {day:Int} {p:aP} {m:List (Int × PStart)} {ds r:List PDeed} {d:PDeed} (h:fy d.it.kind=true) (h2:yC day p m ds d=true):ry day p m ds (d::r)=d::ry day p m ds r:=by simp only [ry,List.filter_cons,h,h2];rfl
structure OnA (day:Int) (p:aP) (m:List (Int × PStart)) (ds r:List PDeed):Prop where
  f:ry day p m ds ds=ry day p m ds r
structure OnR (day:Int) (p:aP) (m:List (Int × PStart)) (ds r:List PDeed) (ep n:Nat) (out:List PDeed):Prop where
  len:n=out.length
  ep:ep+1=out.length
  small:out.length+r.length≤ds.length
  f:ry day p m ds ds=out++ry day p m ds r
theorem OnA.no {day:Int} {p:aP} {m:List (Int × PStart)} {ds r:List PDeed} {d:PDeed} (h:OnA day p m ds (d::r)) (ha:fy d.it.kind=false):OnA day p m ds r:=⟨by rw [h.f,OD ha]⟩
theorem OnA.nil {day:Int} {p:aP} {m:List (Int × PStart)} {ds r:List PDeed} {d:PDeed} (h:OnA day p m ds (d::r)) (hb:yC day p m ds d=false):OnA day p m ds r:=⟨by rw [h.f,OC hb]⟩
theorem OnA.new {day:Int} {p:aP} {m:List (Int × PStart)} {ds r:List PDeed} {d:PDeed} {n:Nat} (h:OnA day p m ds (d::r)) (hl:(d::r).length≤ds.length) (ha:fy d.it.kind=true) (hb:yC day p m ds d=true) (hn:n=1):OnR day p m ds r 0 n [d]:=⟨hn,rfl,by simp only [lC,lN] at *;omega,by rw [h.f,OB ha hb];rfl⟩
theorem OnR.no {day:Int} {p:aP} {m:List (Int × PStart)} {ds r:List PDeed} {d:PDeed} {ep n:Nat} {out:List PDeed} (h:OnR day p m ds (d::r) ep n out) (ha:fy d.it.kind=false):OnR day p m ds r ep n out:=⟨h.len,h.ep,by have:=h.small;simp only [lC] at this;omega,by rw [h.f,OD ha]⟩
theorem OnR.nil {day:Int} {p:aP} {m:List (Int × PStart)} {ds r:List PDeed} {d:PDeed} {ep n:Nat} {out:List PDeed} (h:OnR day p m ds (d::r) ep n out) (hb:yC day p m ds d=false):OnR day p m ds r ep n out:=⟨h.len,h.ep,by have:=h.small;simp only [lC] at this;omega,by rw [h.f,OC hb]⟩
theorem OnR.new {day:Int} {p:aP} {m:List (Int × PStart)} {ds r:List PDeed} {d:PDeed} {ep n k:Nat} {out:List PDeed} (h:OnR day p m ds (d::r) ep n out) (ha:fy d.it.kind=true) (hb:yC day p m ds d=true) (hk:k=n+1):OnR day p m ds r (ep+1) k (out++ [d]):=by
  have:=h.len;have:=h.ep;have:=h.small
  refine ⟨?_,?_,?_,by rw [h.f,OB ha hb,nJ];rfl⟩ <;> simp only [lA,lC,lN] at * <;> omega
theorem OnR.done {day:Int} {p:aP} {m:List (Int × PStart)} {ds:List PDeed} {ep n:Nat} {out:List PDeed} (h:OnR day p m ds [] ep n out):ep=(ry day p m ds ds).length - 1∧n=(ry day p m ds ds).length∧out=ry day p m ds ds:=by
  have e:ry day p m ds ds=out:=by rw [h.f];exact dB _
  have:=h.len;have:=h.ep
  rw [e];exact ⟨by omega,by omega,rfl⟩
theorem UL {α:Type} {l r:List α} {j:Nat} {a:α} (h:l.drop j=a::r):(a::r).length≤l.length:=by rw [← h,xE];omega
theorem UU {day:Int} {p:aP} {m:List (Int × PStart)} {ds r:List PDeed} {d:PDeed} (h:ry day p m ds (d::r) = []) (ha:fy d.it.kind=true):yC day p m ds d=false:=by
  cases q:yC day p m ds d with
  | false=>rfl
  | true=>rw [OB ha q] at h;cases h
theorem V1 (gs:List PGaz) (L:List PAct) (ds:List PDeed) (day:Int) (p:aP) (hL:L.length<10000) (hd:ds.length<100000) (ha:kP 63 [.ls (gs.map aM)] (.ls (L.map av))) (hi:kP 64 [.ls (gs.map aM)] (.ls (ds.map aY))) (hE:ry day p (wN L []) ds ds = []) :
    kD 39 [.ls (gs.map aM), .func (.func 40) [] [.ptr 1 0 0 0, .ptr 0 0 0 0, .ptr 2 0 0 0]] (ay [ip day,gu p,qz]) (.tuple []) (ay [ip day,gu p,qz]):=by
  have hlk:=zZ
  have hup:=Bw
  let q1:= [iV day];exact gQ Tryz.func39 fun a=>Kp 2 ha<|Kl 0 13 (ln av L)<|Mg 0<|Nv av L ([]:List (Int × PStart)) [0,1,4,12,13,14] (fun a _ b=>([aX<|gs.map aM,bU (bY 40) [] [aR 1 0 0 0,aR 0 0 0 0,aR 2 0 0 0],AV.map 3,aX<|L.map av,nV L.length,nV a],[aZ 1 false 0 [iV day],aZ 1 false 0 [aj p],aZ 1 false 0 [aa],AObj.map (bO ap b 0) b.length])) (fun a b=>wN L []=wN a b) (by rfl) (fun _ _ b _ _ _ c d=>Kh 0 c<|Kp 0 hi<|Kl 2 27 (ln aY ds)<|Mg 0<|Ul (0:Nat) ds () [1,4,7,26,27,28] (fun a _ _=>([bU (bY 40) [] [aR 1 0 0 0,aR 0 0 0 0,aR 2 0 0 0],AV.map 3,aX<|ds.map aY,aX<|ds.map aY,nV ds.length,nV a],[aZ 1 false 0 [iV day],aZ 1 false 0 [aj p],aZ 1 false 0 [aa],AObj.map (bO ap b 0) b.length])) (fun a c _=>(ds).drop a=c∧ry day p b ds c= []) (fun _ a _=>a.length) (et rfl<|by (rw [← show wN L []=b from d];exact hE)) fun c d e f g=>Mc d (fun c=>have d:=fP f.1 c;have :=ic (J:=fun a _=>ry day p b ds a= []) (a:=e) c f.2;Kh 0 d<|M1 (.frz 3 []) (kx rt rt rt ti)<|Mf a) fun a d h=>let i:=[ak [iV a.act,iV a.item,iV a.day,iV a.it.kind,aX<|a.it.at_.map az,aX<|a.it.to.map az,iV a.it.where_,iV a.it.nth_,iV a.it.unit.act,iV a.it.unit.item,iV a.it.unit.n,iV a.it.unit.kind,aj a.it.unit.label,aX<|a.it.unit.head.map aQ,aX<|a.it.unit.words.map aQ,aX<|a.it.unit.kids.map aV,aX<|a.it.old.map mT,aX<|a.it.new.map mT,aj a.it.label,aj a.it.for_,iV a.it.start.kind,iV a.it.start.day,aj a.it.start.event,iV a.it.act,iV a.it.item,iV a.it.day,aj a.it.event,aX<|a.it.by_.map ME]];have j:=gX f.1 h;have :=au j;have k:=fO (enc:=aY) f.1 h;have e:=cW (J:=fun a _=>ry day p b ds a= []) (a:=e) h f.2;Kt 0 j<|Mx k<|Kp 5 (m8 a.it.kind)<|Mb (fy a.it.kind) (fun _=>K1 4 (.look<|ak [iV (cT b a.act).kind,iV (cT b a.act).day,aj (cT b a.act).event]) (hlk b a.act)<|Kp 1 (mI (cT b a.act) a ds<|by (omega))<|M3 (.efx true (ca [])<|ay [aZ 1 false 0 q1,aZ 1 false 0 [aj p],aZ 1 false 0 [aa],AObj.map (bO ap b 0) b.length,aZ 28 false 0 i]) (xo rt (tM b.length 5<|aE (f:=ap) (fun _=>rfl) b 0) rt rt rt ti) (xo (aU<|some<|aZ 28 false 0 i) (aU<|some<|AObj.map (bO ap b 0) b.length) (aU<|some<|aZ 1 false 0 [aa]) (aU<|some<|aZ 1 false 0 [aj p]) (aU<|some<|aZ 1 false 0 q1) ti) (WT day p b ds a<|by exact UU e (by assumption))<|Kl 0 46 (dj c)<|K1 0 (.frz 4 [1,4,7,26,27,28]) (HU (tM b.length 4<|aE (f:=ap) (fun _=>rfl) b 0) rt rt rt ti)<|Mf<|g (c+1) d () (et (bM f.1 h)<|by (have z:=e;rw [OC (UU z (by assumption))] at z;exact z))<|fk h) fun _=>Kl 0 46 (dj c)<|K1 0 (.frz 4 [1,4,7,26,27,28]) (HU (tM b.length 4<|aE (f:=ap) (fun _=>rfl) b 0) rt rt rt ti)<|Mf<|g (c+1) d () (et (bM f.1 h)<|by (have z:=e;rw [OD (by assumption)] at z;exact z))<|fk h) fun a _ b _ _ c d e _ f _ g h=>Kt 0 f<|Mx g<|K1 7 (.upd (bO ap (ko c.number c.start b) 0) (ko c.number c.start b).length) (hup b c)<|Kl 0 23 (dj a)<|K1 0 (.frz 4 [0,1,4,12,13,14]) (HU (tM (ko c.number c.start b).length 4<|aE (f:=ap) (fun _=>rfl) (ko c.number c.start b) 0) rt rt rt ti)<|Mf<|e (ko c.number c.start b)<|by exact h
def GP (gs:List PGaz) (L:List PAct) (day:Int) (p:aP) (x0:Nat × List PAct × List (Int × PStart)):Prop:=(L).drop x0.1=x0.2.1∧wN L []=wN x0.2.1 x0.2.2
noncomputable def wt (gs:List PGaz) (L:List PAct) (day:Int) (p:aP) (x0:Nat × List PAct × List (Int × PStart)):List AV × List AObj:=([AV.ls (gs.map aM),AV.func (Fn.func 40) [] [AV.ptr 1 0 0 0,AV.ptr 0 0 0 0,AV.ptr 2 0 0 0],AV.map 3,AV.ls (L.map av),nV L.length,nV x0.1], [AObj.row 1 false 0 [iV day],AObj.row 1 false 0 [AV.str p],AObj.row 1 false 0 [AV.nils],AObj.map (bO ap x0.2.2 0) x0.2.2.length])
def GO (ds:List PDeed) (day:Int) (p:aP) (x0:Nat × List PAct × List (Int × PStart)) (x1:Nat × List PDeed × Unit):Prop:=(ds).drop x1.1=x1.2.1∧OnA day p x0.2.2 ds x1.2.1
noncomputable def wo (ds:List PDeed) (day:Int) (p:aP) (x0:Nat × List PAct × List (Int × PStart)) (x1:Nat × List PDeed × Unit):List AV × List AObj:=([AV.func (Fn.func 40) [] [AV.ptr 1 0 0 0,AV.ptr 0 0 0 0,AV.ptr 2 0 0 0],AV.map 3,AV.ls (ds.map aY),AV.ls (ds.map aY),nV ds.length,nV x1.1], [AObj.row 1 false 0 [iV day],AObj.row 1 false 0 [AV.str p],AObj.row 1 false 0 [AV.nils],AObj.map (bO ap x0.2.2 0) x0.2.2.length])
def GN (ds:List PDeed) (day:Int) (p:aP) (x0:Nat × List PAct × List (Int × PStart)) (x1:Nat × List PDeed × Nat × Nat × List PDeed):Prop:=(ds).drop x1.1=x1.2.1∧OnR day p x0.2.2 ds x1.2.1 x1.2.2.1 x1.2.2.2.1 x1.2.2.2.2
noncomputable def GM (ds:List PDeed) (day:Int) (p:aP) (x0:Nat × List PAct × List (Int × PStart)) (x1:Nat × List PDeed × Nat × Nat × List PDeed):List AV × List AObj:=([AV.func (Fn.func 40) [] [AV.ptr 1 0 0 0,AV.ptr 0 0 0 0,AV.ptr 2 0 0 0],AV.map 3,AV.ls (ds.map aY),AV.ls (ds.map aY),nV ds.length,nV x1.1], [AObj.row 1 false 0 [iV day],AObj.row 1 false 0 [AV.str p],AObj.row 1 false 0 [AV.slice 4 x1.2.2.1 0 x1.2.2.2.1 none],AObj.map (bO ap x0.2.2 0) x0.2.2.length,AObj.row 28 true x1.2.2.1 (x1.2.2.2.2.map aY)])
theorem V0 (gs:List PGaz) (L:List PAct) (ds:List PDeed) (day:Int) (p:aP) (hL:L.length<10000) (hd:ds.length<100000) (ha:kP 63 [.ls (gs.map aM)] (.ls (L.map av))) (hi:kP 64 [.ls (gs.map aM)] (.ls (ds.map aY))) (hE:ry day p (wN L []) ds ds≠ []) :
    kD 39 [.ls (gs.map aM), .func (.func 40) [] [.ptr 1 0 0 0, .ptr 0 0 0 0, .ptr 2 0 0 0]] (ay [ip day,gu p,qz]) (.tuple []) (ay [ip day,gu p,pi 3 ((ry day p (wN L []) ds ds).length - 1) (ry day p (wN L []) ds ds).length,pg ((ry day p (wN L []) ds ds).length - 1) (ry day p (wN L []) ds ds)]):=by
  have hlk:=zZ
  have hup:=Bw
  let q5:= [iV day];let q8:=ca [];let q10:=some (aZ 1 false 0 [aj p]);let q11:=some (aZ 1 false 0 q5);exact Re Tryz.func39<|Kp 2 ha<|Kl 0 13 (ln av L)<|Mg 0<|ML (Nat × List PAct × List (Int × PStart)) [0,1,4,12,13,14] (wt gs L day p) (GP gs L day p) (fun a=>a.2.1.length) (0,L,[]) (aU<|wt gs L day p (0,L,[])) (et (rfl:List.drop 0 (L)=L) (by rfl:(wN L []=wN L []))) fun a b c=>let d:=some<|AObj.map (bO ap a.2.2 0) a.2.2.length;Mi (fun a b=>wN L []=wN a b) av b (fun _ b c=>Kh 0 b<|Kp 0 hi<|Kl 2 27 (ln aY ds)<|Mg 0<|MM (Nat × List PDeed × Unit) (Nat × List PDeed × Nat × Nat × List PDeed) [1,4,7,26,27,28] (wo ds day p a) (GM ds day p a) (GO ds day p a) (GN ds day p a) (fun a=>a.2.1.length) (fun a=>a.2.1.length) (.inl (0,ds,())) (aU<|wo ds day p a (0,ds,())) (et (rfl:List.drop 0 (ds)=ds) (by (exact ⟨rfl⟩):(OnA day p a.2.2 ds ds))) (fun b e f=>Mc b.2.1 (fun d=>have f:=fP e.1 d;have b:=ic (J:=fun b _=>OnA day p a.2.2 ds b) (a:=b.2.2) d e.2;Kh 0 f<|Mw .abs (by exact hE (by rw [show wN L []=a.2.2 from c];exact b.f):False)) fun c g h=>let i:=[ak [iV c.act,iV c.item,iV c.day,iV c.it.kind,aX<|c.it.at_.map az,aX<|c.it.to.map az,iV c.it.where_,iV c.it.nth_,iV c.it.unit.act,iV c.it.unit.item,iV c.it.unit.n,iV c.it.unit.kind,aj c.it.unit.label,aX<|c.it.unit.head.map aQ,aX<|c.it.unit.words.map aQ,aX<|c.it.unit.kids.map aV,aX<|c.it.old.map mT,aX<|c.it.new.map mT,aj c.it.label,aj c.it.for_,iV c.it.start.kind,iV c.it.start.day,aj c.it.start.event,iV c.it.act,iV c.it.item,iV c.it.day,aj c.it.event,aX<|c.it.by_.map ME]];let j:=ak [iV (cT a.2.2 c.act).kind,iV (cT a.2.2 c.act).day,aj (cT a.2.2 c.act).event];have k:=gX e.1 h;have :=au k;have l:=fO (enc:=aY) e.1 h;have m:=cW (J:=fun b _=>OnA day p a.2.2 ds b) (a:=b.2.2) h e.2;Kt 0 k<|Mx l<|Kp 5 (m8 c.it.kind)<|Mb (fy c.it.kind) (fun _=>Ms (yC day p a.2.2 ds c) (fun d=>K1 4 (.look j) (hlk a.2.2 c.act)<|Kp 1 (mI (cT a.2.2 c.act) c ds<|by (omega))<|M3 (.efx false q8<|ay [aZ 1 false 0 q5,aZ 1 false 0 [aj p],aZ 1 false 0 [aH 5 0 0 1 none],AObj.map (bO ap a.2.2 0) a.2.2.length,aZ 28 false 0 i,aZ 28 true 0 i]) (xo rt (tM a.2.2.length 5<|aE (f:=ap) (fun _=>rfl) a.2.2 0) rt rt rt ti) ti (YX day p a.2.2 ds c d)<|Kl 0 46 (dj b.1)<|K1 0 (.ren [0,1,2,3,5,4] [3] [1,4,7,26,27,28]) (tN a.2.2.length<|aE (f:=ap) (fun _=>rfl) a.2.2 0)<|M1 (.frz 5 [1,4,7,26,27,28]) (xo rt (tM a.2.2.length 5<|aE (f:=ap) (fun _=>rfl) a.2.2 0) rt rt rt ti)<|Mf<|f (.inr (b.1+1,g,(0,1,[c]))) (et (bM e.1 h) (by exact m.new (UL (e.1.trans h)) (by assumption) (by assumption) rfl:(OnR day p a.2.2 ds g (0:Nat) (1:Nat) [c])))<|fk h) fun k=>K1 4 (.look j) (hlk a.2.2 c.act)<|Kp 1 (mI (cT a.2.2 c.act) c ds<|by (omega))<|M3 (.efx true q8<|ay [aZ 1 false 0 q5,aZ 1 false 0 [aj p],aZ 1 false 0 [aa],AObj.map (bO ap a.2.2 0) a.2.2.length,aZ 28 false 0 i]) (xo rt (tM a.2.2.length 5<|aE (f:=ap) (fun _=>rfl) a.2.2 0) rt rt rt ti) (xo (aU<|some<|aZ 28 false 0 i) (aU d) (aU<|some<|aZ 1 false 0 [aa]) (aU q10) (aU q11) ti) (YW day p a.2.2 ds c k)<|Kl 0 46 (dj b.1)<|K1 0 (.frz 4 [1,4,7,26,27,28]) (HU (tM a.2.2.length 4<|aE (f:=ap) (fun _=>rfl) a.2.2 0) rt rt rt ti)<|Mf<|f (.inl (b.1+1,g,())) (et (bM e.1 h) (by exact m.nil (by assumption):(OnA day p a.2.2 ds g)))<|fk h) fun _=>Kl 0 46 (dj b.1)<|K1 0 (.frz 4 [1,4,7,26,27,28]) (HU (tM a.2.2.length 4<|aE (f:=ap) (fun _=>rfl) a.2.2 0) rt rt rt ti)<|Mf<|f (.inl (b.1+1,g,())) (et (bM e.1 h) (by exact m.no (by assumption):(OnA day p a.2.2 ds g)))<|fk h) fun b e f=>let g:=[aH 4 b.2.2.1 0 b.2.2.2.1 none];let h:=List.map aY b.2.2.2.2;Mc b.2.1 (fun d=>have f:=fP e.1 d;have d:=ic (J:=fun b c=>OnR day p a.2.2 ds b c.1 c.2.1 c.2.2) (a:=b.2.2) d e.2;Kh 0 f<|M2 (.ren [0,1,2,4,3] [4,3] []) (tS 28 true b.2.2.1<|aW wg b.2.2.2.2) (tN a.2.2.length<|aE (f:=ap) (fun _=>rfl) a.2.2 0)<|M1 (.frz 4 []) (HU (tR 28 true b.2.2.1 4<|aW wg b.2.2.2.2) rt rt rt ti)<|Mf<|et (aU q8) (by (have q:=d.done;rw [show wN L []=a.2.2 from c,q.1,q.2.1,q.2.2]):(ay [AObj.row 1 false 0 [iV day],AObj.row 1 false 0 [AV.str p],AObj.row 1 false 0 [AV.slice 3 b.2.2.1 0 b.2.2.2.1 none],AObj.row 28 true b.2.2.1 (b.2.2.2.2.map aY)])=(ay [ip day,gu p,pi 3 ((ry day p (wN L []) ds ds).length - 1) (ry day p (wN L []) ds ds).length,pg ((ry day p (wN L []) ds ds).length - 1) (ry day p (wN L []) ds ds)]))) fun c i j=>let k:=[ak [iV c.act,iV c.item,iV c.day,iV c.it.kind,aX<|c.it.at_.map az,aX<|c.it.to.map az,iV c.it.where_,iV c.it.nth_,iV c.it.unit.act,iV c.it.unit.item,iV c.it.unit.n,iV c.it.unit.kind,aj c.it.unit.label,aX<|c.it.unit.head.map aQ,aX<|c.it.unit.words.map aQ,aX<|c.it.unit.kids.map aV,aX<|c.it.old.map mT,aX<|c.it.new.map mT,aj c.it.label,aj c.it.for_,iV c.it.start.kind,iV c.it.start.day,aj c.it.start.event,iV c.it.act,iV c.it.item,iV c.it.day,aj c.it.event,aX<|c.it.by_.map ME]];let l:=ak [iV (cT a.2.2 c.act).kind,iV (cT a.2.2 c.act).day,aj (cT a.2.2 c.act).event];have m:=gX e.1 j;have :=au m;have n:=fO (enc:=aY) e.1 j;have o:=cW (J:=fun b c=>OnR day p a.2.2 ds b c.1 c.2.1 c.2.2) (a:=b.2.2) j e.2;Kt 0 m<|Mx n<|Kp 5 (m8 c.it.kind)<|Mb (fy c.it.kind) (fun _=>Ms (yC day p a.2.2 ds c) (fun d=>K1 4 (.look l) (hlk a.2.2 c.act)<|Kp 1 (mI (cT a.2.2 c.act) c ds<|by (omega))<|M3 (.efx false q8<|ay [aZ 1 false 0 q5,aZ 1 false 0 [aj p],aZ 1 false 0 [aH 4 (b.2.2.1+1) 0 (b.2.2.2.1+1) none],AObj.map (bO ap a.2.2 0) a.2.2.length,aZ 28 true (b.2.2.1+1)<|(b.2.2.2.2++ [c]).map aY,aZ 28 false 0 k]) (MA rt (tR 28 true b.2.2.1 6<|aW wg b.2.2.2.2) (tM a.2.2.length 6<|aE (f:=ap) (fun _=>rfl) a.2.2 0) rt rt rt ti) ti (YQ day p a.2.2 ds c b.2.2.1 b.2.2.2.1 b.2.2.2.2 d (by exact o.len)<|by (have z:=o.small;have z2:=o.len;simp only [lC] at z;omega))<|Kl 0 46 (dj b.1)<|K1 0 (.frz 5 [1,4,7,26,27,28]) (xo (tR 28 true (b.2.2.1+1) 5<|aW wg<|b.2.2.2.2++ [c]) (tM a.2.2.length 5<|aE (f:=ap) (fun _=>rfl) a.2.2 0) rt rt rt ti)<|Mf<|f (.inr (b.1+1,i,(b.2.2.1+1,b.2.2.2.1+1,b.2.2.2.2++ [c]))) (et (bM e.1 j) (by exact o.new (by assumption) (by assumption) rfl:(OnR day p a.2.2 ds i (b.2.2.1+1) (b.2.2.2.1+1) (b.2.2.2.2++ [c]))))<|fk j) fun m=>K1 4 (.look l) (hlk a.2.2 c.act)<|Kp 1 (mI (cT a.2.2 c.act) c ds<|by (omega))<|M3 (.efx true q8<|ay [aZ 1 false 0 q5,aZ 1 false 0 [aj p],aZ 1 false 0 g,AObj.map (bO ap a.2.2 0) a.2.2.length,aZ 28 true b.2.2.1 h,aZ 28 false 0 k]) (MA rt (tR 28 true b.2.2.1 6<|aW wg b.2.2.2.2) (tM a.2.2.length 6<|aE (f:=ap) (fun _=>rfl) a.2.2 0) rt rt rt ti) (MA (aU<|some<|aZ 28 false 0 k) (aU<|some<|aZ 28 true b.2.2.1 h) (aU d) (aU<|some<|aZ 1 false 0 g) (aU q10) (aU q11) ti) (YZ day p a.2.2 ds c b.2.2.1 b.2.2.2.1 b.2.2.2.2 m)<|Kl 0 46 (dj b.1)<|K1 0 (.frz 5 [1,4,7,26,27,28]) (xo (tR 28 true b.2.2.1 5<|aW wg b.2.2.2.2) (tM a.2.2.length 5<|aE (f:=ap) (fun _=>rfl) a.2.2 0) rt rt rt ti)<|Mf<|f (.inr (b.1+1,i,(b.2.2.1,b.2.2.2.1,b.2.2.2.2))) (et (bM e.1 j) (by exact o.nil (by assumption):(OnR day p a.2.2 ds i b.2.2.1 b.2.2.2.1 b.2.2.2.2)))<|fk j) fun _=>Kl 0 46 (dj b.1)<|K1 0 (.frz 5 [1,4,7,26,27,28]) (xo (tR 28 true b.2.2.1 5<|aW wg b.2.2.2.2) (tM a.2.2.length 5<|aE (f:=ap) (fun _=>rfl) a.2.2 0) rt rt rt ti)<|Mf<|f (.inr (b.1+1,i,(b.2.2.1,b.2.2.2.1,b.2.2.2.2))) (et (bM e.1 j) (by exact o.no (by assumption):(OnR day p a.2.2 ds i b.2.2.1 b.2.2.2.1 b.2.2.2.2)))<|fk j) fun d e f g _ h i=>Kt 0 g<|Mx h<|K1 7 (.upd (bO ap (ko d.number d.start a.2.2) 0) (ko d.number d.start a.2.2).length) (hup a.2.2 d)<|Kl 0 23 (dj a.1)<|K1 0 (.frz 4 [0,1,4,12,13,14]) (HU (tM (ko d.number d.start a.2.2).length 4<|aE (f:=ap) (fun _=>rfl) (ko d.number d.start a.2.2) 0) rt rt rt ti)<|Mf<|c (a.1+1,e,ko d.number d.start a.2.2) (et (bM b.1 f) (by exact i:(wN L []=wN e (ko d.number d.start a.2.2))))<|fk f
/-- What is in force on a day for a purpose. -/
noncomputable def W0 (day:Int) (p:aP) (L:List PAct) (ds:List PDeed):List PDeed:=ry day p (wN L []) ds ds
theorem WR (gs:List PGaz) (day:Int) (p:aP) (hc:kD 39 [.ls (gs.map aM), .func (.func 40) [] [.ptr 1 0 0 0, .ptr 0 0 0 0, .ptr 2 0 0 0]] (ay [ip day,gu p,qz]) (.tuple []) (ay [ip day,gu p,qz])):kP 20 [iV day, .str p, .ls (gs.map aM)] (.ls (([]:List PDeed).map aY)):=by
  exact bB Tryz.func20<|Ke 5 hc<|Kf 1 bA
theorem WO (gs:List PGaz) (day:Int) (p:aP) (X:List PDeed) (k:Nat) (hz:0<X.length) (hb:X.length<2 ^ 40) (hc:kD 39 [.ls (gs.map aM), .func (.func 40) [] [.ptr 1 0 0 0, .ptr 0 0 0 0, .ptr 2 0 0 0]] (ay [ip day,gu p,qz]) (.tuple []) (ay [ip day,gu p,pi 3 k X.length,pg k X])):kP 20 [iV day, .str p, .ls (gs.map aM)] (.ls (X.map aY)):=by
  let q:=List.map aY X;exact bB Tryz.func20<|Ke 5 hc<|Mg 1<|M2 (.fsl 0 [] 6 q) ti (cp (aU k) (tA aY X X.length rfl)<|aW wg X)<|Ml 6 (fx q false<|aW wg X)<|Mf<|bg<|aX q
theorem WS (gs:List PGaz) (L:List PAct) (ds:List PDeed) (day:Int) (p:aP) (hL:L.length<10000) (hd:ds.length<100000) (ha:kP 63 [.ls (gs.map aM)] (.ls (L.map av))) (hi:kP 64 [.ls (gs.map aM)] (.ls (ds.map aY))):kP 20 [iV day, .str p, .ls (gs.map aM)] (.ls ((W0 day p L ds).map aY)):=by
  by_cases hE:W0 day p L ds = []
  · rw [hE];exact WR gs day p (V1 gs L ds day p hL hd ha hi hE)
  · have hl:(W0 day p L ds).length≤ds.length:=List.length_filter_le ..
    exact WO gs day p _ _ (pG.2 hE) (by omega) (V0 gs L ds day p hL hd ha hi hE)
/-- The book with nothing in it. -/
def rb:TUnit:=⟨0,0,0,0, [], [], [], []⟩
theorem Iu:OkB rb:=⟨by decide,by decide,fun x hx=>by
  have e:x=rb:=by simpa [rb,bx,dW] using hx
  subst e;exact ⟨bG _,bG _⟩⟩
theorem WW (X:List PDeed) (hl:X.length<2 ^ 30) (ho : ∀ d,d∈X→v9 d.it):kP 55 [zU, .ls (X.map aY)] (.tuple [eU (dJ rb X), .ls ((fV rb X).map iz)]):=
  (RZ rb X Iu hl ho).args (.cons (vi _ _ (by kernel_rfl)).1 (.cons (Le.refl _) .nil))
theorem Qr (X:List PDeed) (hl:X.length<2 ^ 30) (ho : ∀ d,d∈X→v9 d.it):kP 34 [.ls (X.map aY)] (.tuple [eU (dJ rb X), .ls ((fV rb X).map iz)]):=by
  have h:=WW X hl ho
  exact bB Tryz.func34<|Kp 3 h<|Kf 3<|bg<|ca [ak [iV (dJ rb X).act,iV (dJ rb X).item,iV (dJ rb X).n,iV (dJ rb X).kind,aj (dJ rb X).label,aX<|List.map aQ (dJ rb X).head,aX<|List.map aQ (dJ rb X).words,aX<|List.map aV (dJ rb X).kids],aX<|(fV rb X).map iz]
theorem TE (gs:List PGaz) (day:Int) (p:aP) (X:List PDeed) (hon:kP 20 [iV day, .str p, .ls (gs.map aM)] (.ls (X.map aY))):kP 33 [iV day, .str p, .ls (gs.map aM)] (.ls (X.map aY)):=by
  exact bB Tryz.func33<|Kp 3 hon<|Kf 0<|bg<|aX<|X.map aY
theorem QO (gs:List PGaz) (day:Int) (p:aP) (X:List PDeed) (hl:X.length<2 ^ 30) (ho : ∀ d,d∈X→v9 d.it) (hon:kP 20 [iV day, .str p, .ls (gs.map aM)] (.ls (X.map aY))):kP 12 [iV day, .str p, .ls (gs.map aM)] (eU (dJ rb X)):=by
  have h1:=TE gs day p X hon
  have h2:=Qr X hl ho
  exact bB Tryz.func12<|Kp 3 h1<|Mp h2<|Kf 7<|bg<|ak [iV (dJ rb X).act,iV (dJ rb X).item,iV (dJ rb X).n,iV (dJ rb X).kind,aj (dJ rb X).label,aX<|List.map aQ (dJ rb X).head,aX<|List.map aQ (dJ rb X).words,aX<|List.map aV (dJ rb X).kids]
theorem Oz (l m:List PWord) (hl:l.length<2 ^ 60) (hm:m.length<2 ^ 60):kP 32 [.ls (l.map aQ), .ls (m.map aQ)] (.bool (cZ Al l m)):=by
  have rr0 b' (h:(cZ Al l m)=b':=by first | exact mS eO hj0 | exact lq eO | (rw [iq zD0 hr0 eO hj0];simp only [Al,aS,ax,bS, *];first | done | rfl)):=h;exact bB Tryz.func32<|Kl 2 7 (ln aQ l)<|Kl 1 9 (ln aQ m)<|Kc 0 (Int.ofNat l.length) (Int.ofNat m.length) (fun _ _=>Ky 0<|rr0 false) fun _ _=>Mg 0<|rf aQ l [0,1,5] (fun a _=>([aX<|l.map aQ,aX<|m.map aQ,nV a],[])) (fun a=>cZ Al l m=cZ Al a (m.drop<|l.length - a.length)) (by (exact zD)) (fun _ _ zD0 _ hr0 a hj0=>Kl 2 13 (ln aQ l)<|Kh 0 a<|Ky 0<|rr0 true) fun a _ zD0 _ b c d hr0 e _ f hj0=>Kl 2 13 (ln aQ l)<|Kt 0 e<|Kx 1 f<|Kx 2 (aT aQ (by (simp only [oN,lM,lS] at *;omega):a<(m).length))<|Kv 0 (xC (d:=(Tryz.prog).underlying 90) (n:=4) (l:=(0,2)::(1,1)::(2,1)::(3,1):: []) (xs:=[aj b.text,iV b.act,iV b.item,iV b.at_]) (ys:=[aj (gD m a).text,iV (gD m a).act,iV (gD m a).item,iV (gD m a).at_]) (H:=AHeap.mk 1000000 Tr.nil) rfl<|mO (e:=dg b.text (gD m a).text) rfl rfl rfl<|mO (e:=ab b.act (gD m a).act) rfl rfl rfl<|mO (e:=ab b.item (gD m a).item) rfl rfl rfl<|zC (e:=ab b.at_ (gD m a).at_) rfl rfl rfl rfl)<|Mn (dg b.text (gD m a).text && (ab b.act (gD m a).act && (ab b.item (gD m a).item && ab b.at_ (gD m a).at_))) (fun _=>Kf 0<|ce<|rr0 false) fun _=>Kl 1 16 (dj a)<|Kf 0<|d<|by (rw [iq zD0 hr0 (by (simp only [oN] at *;omega)) hj0];simp only [Al,aS,ax,bS, *];first | done | rfl)
theorem UI : ∀ (u:TUnit),o7 u→∀ v,o7 v→kP 11 [eU u,eU v] (.bool (Am u v)):=by
  refine TUnit.ind fun u ih hu v hv=>?_
  obtain ⟨u1,u2,u3,u4⟩:=lY.1 hu
  obtain ⟨v1,v2,v3,v4⟩:=lY.1 hv
  have hh:=Oz u.head v.head u1 v1
  have hw:=Oz u.words v.words u2 v2
  have hk : ∀ a,a∈u.kids→∀ b,b∈v.kids→kP 11 [eU a,eU b] (.bool (Am a b)):=fun a ha b hb=>ih a ha (u4 a ha) b (v4 b hb)
  have rr0 b' (h:(Am u v)=b':=by (rw [Ii];first | (rw [mS (by (simp only [oN] at *;omega)) hj0];simp only [bb,ae,bW,aS,ax,bS, *];done) | (rw [show cZ Am u.kids v.kids=false from lq (by (simp only [oN] at *;omega))];simp only [bb,ae,bW,aS,ax,bS, *];done) | (rw [iq zD0 hr0 (by (simp only [oN] at *;omega)) hj0];simp only [bb,ae,bW,aS,ax,bS, *];done) | (simp only [bb,ae,bW,aS,ax,bS, *];first | done | rfl))):=h;exact bB Tryz.func11<|Kv 6 (DK ((Tryz.prog).underlying 27) u.act u.item u.n v.act v.item v.n<|ay [aZ 8 false 0 [ak [iV u.act,iV u.item,iV u.n,iV u.kind,aj u.label,aX<|u.head.map aQ,aX<|u.words.map aQ,aX<|u.kids.map aV]],aZ 8 false 0 [ak [iV v.act,iV v.item,iV v.n,iV v.kind,aj v.label,aX<|v.head.map aQ,aX<|v.words.map aQ,aX<|v.kids.map aV]]])<|Kn 0 (ab u.act v.act && (ab u.item v.item && ab u.n v.n)) (fun c=>Mt (bT c)<|Mt (bT c)<|Mt (bT c)<|Mt (bT c)<|MV (bT c)<|Ky 9<|rr0 false) fun c=>Kh 0 (bN c)<|Kh 0 (bN c)<|Kh 0 (bN c)<|Kh 0 (bN c)<|Kw 0 (bN c)<|Kc 0 u.kind v.kind (fun c _=>Mt (bT c)<|Mt (bT c)<|Mt (bT c)<|Mt (bT c)<|MV (bT c)<|Ky 7<|rr0 false) fun c _=>Kh 0 (bN c)<|Kh 0 (bN c)<|Kh 0 (bN c)<|Kh 0 (bN c)<|Kw 0 (bN c)<|Kn 0 (dg u.label v.label) (fun c=>Mt (bT c)<|Mt (bT c)<|Mt (bT c)<|Mt (bT c)<|Mt (bT c)<|MV (bT c)<|Ky 5<|rr0 false) fun c=>Kh 0 (bN c)<|Kh 0 (bN c)<|Kh 0 (bN c)<|Kh 0 (bN c)<|Mp hh<|Mh (bN c)<|Kw 0 (bN c)<|Kn 0 (cZ Al u.head v.head) (fun c=>Mt (bT c)<|Mt (bT c)<|Mt (bT c)<|Mt (bT c)<|Mt (bT c)<|MV (bT c)<|Ky 3<|rr0 false) fun c=>Kh 0 (bN c)<|Kh 0 (bN c)<|Kh 0 (bN c)<|Kh 0 (bN c)<|Mp hw<|Mh (bN c)<|Kw 0 (bN c)<|Kn 0 (cZ Al u.words v.words) (fun c=>Mt (bT c)<|Mt (bT c)<|Mt (bT c)<|Mt (bT c)<|Mt (bT c)<|Mt (bT c)<|MV (bT c)<|Ky 1<|rr0 false) fun c=>Kh 0 (bN c)<|Kh 0 (bN c)<|Kl 0 44 (ln aV u.kids)<|Mh (bN c)<|Kh 0 (bN c)<|Kh 0 (bN c)<|Kl 0 47 (ln aV v.kids)<|Mh (bN c)<|Kw 0 (bN c)<|Mn (ab (Int.ofNat u.kids.length)<|Int.ofNat v.kids.length) (fun c=>have :=tP c;Ky 0<|rr0 false) fun c=>have :=gn c;Mg 0<|rf aV u.kids [2,3,5] (fun c _=>([aR 0 0 0 0,aR 1 0 0 0,nV c],[aZ 8 false 0 [ak [iV u.act,iV u.item,iV u.n,iV u.kind,aj u.label,aX<|u.head.map aQ,aX<|u.words.map aQ,aX<|u.kids.map aV]],aZ 8 false 0 [ak [iV v.act,iV v.item,iV v.n,iV v.kind,aj v.label,aX<|v.head.map aQ,aX<|v.words.map aQ,aX<|v.kids.map aV]]])) (fun c=>cZ Am u.kids v.kids=cZ Am c (v.kids.drop<|u.kids.length - c.length)) (by (exact zD)) (fun _ _ zD0 _ hr0 c hj0=>Kl 3 53 (ln aV u.kids)<|Kh 0 c<|Ky 0<|rr0 true) fun c _ zD0 _ d e f hr0 g _ i hj0=>have i:=i.trans<|congrArg some<|aA d;Kl 3 53 (ln aV u.kids)<|Kt 0 g<|Kx 2 i<|Kx 3 ((aT aV (by (simp only [oN,lM,lS] at *;omega):c<(v.kids).length)).trans<|congrArg some<|aA _)<|Kp 0 (hk d (by exact ar zD0 hr0) (gD v.kids c)<|by exact gH (by (simp only [oN] at *;omega)))<|Kn 0 (Am d<|gD v.kids c) (fun _=>Kf 0<|ce<|rr0 false) fun _=>Kl 1 56 (dj c)<|Kf 0<|f<|by (rw [iq zD0 hr0 (by (simp only [oN] at *;omega)) hj0];simp only [aS,ax,bS, *];first | done | rfl)
theorem OU (u:TUnit) (h:OkB u):kP 11 [eU u,eU u] (.bool true):=by
  have z:=UI u (FV h) u (FV h)
  rwa [(Tb u u).2 rfl] at z
/-- What the bound on gazettes tells. -/
structure OkG (gs:List PGaz):Prop where
  fit:pb gs
  len:gs.length≤9
  acts : ∀ g,g∈gs→g.acts.length≤8
  items : ∀ g,g∈gs→∀ a,a∈g.acts→a.items.length≤24∧∀ x,x∈a.items→mN x=true
theorem Gz {most:Int} : ∀ (l:List PAct) (n m:Int),most=24→0≤n→lI most l n=some m→0≤m∧∀ a,a∈l→a.items.length≤24∧∀ x,x∈a.items→mN x=true
  | [],n,m,_,hn,h=>by simp only [lI,wG] at h;exact ⟨h ▸ hn,fun a ha=>by cases ha⟩
  | b::r,n,m,hm,hn,h=>by
    unfold lI at h
    cases hb:Ad most n b with
    | true=>rw [hb] at h;cases h
    | false=>
      rw [hb] at h
      unfold Ad at hb
      simp only [BW] at hb
      obtain ⟨z1,_,_,z2⟩:=hb
      have z1:=aL z1
      obtain ⟨q1,q2⟩:=Gz r (n+Int.ofNat b.items.length) m hm (by simp only [oN] at *;omega) h
      refine ⟨q1,fun a ha=>?_⟩
      rcases eP.1 ha with rfl | ha
      · refine ⟨by simp only [oN] at *;omega,fun x hx=>?_⟩
        have z3:=qq z2
        exact nW.1 z3 x hx
      · exact q2 a ha
theorem KU : ∀ (l:List PGaz) (n:Int),0≤n→tH 24 l n=true→∀ g,g∈l→g.acts.length≤8∧∀ a,a∈g.acts→a.items.length≤24∧∀ x,x∈a.items→mN x=true
  | [],_,_,_,g,hg=>by cases hg
  | x::r,n,hn,h,g,hg=>by
    unfold tH at h
    cases hb:vq x with
    | true=>rw [hb] at h;cases h
    | false=>
      rw [hb] at h
      cases ha:lI 24 x.acts n with
      | none=>rw [ha] at h;cases h
      | some m=>
        rw [ha] at h
        obtain ⟨q1,q2⟩:=Gz x.acts n m rfl hn ha
        rcases eP.1 hg with rfl | hg
        · unfold vq at hb
          have:=aL (BW.1 hb).1
          exact ⟨by simp only [oN] at *;omega,q2⟩
        · exact KU r m q1 h g hg
theorem U6 {gs:List PGaz} {p:aP} (hf:pb gs) (h:MU gs p=true):OkG gs∧gs.length≤8:=by
  unfold MU at h
  have h1:=(nL.1 h).1
  unfold Mk at h1
  cases hb:aB 8 (Int.ofNat gs.length) with
  | true=>rw [hb] at h1;cases h1
  | false=>
    rw [hb] at h1
    have:=aL hb
    have hl:gs.length≤8:=by simp only [oN] at *;omega
    have q:=KU gs 0 (by omega) h1
    exact ⟨⟨hf,by omega,fun g hg=>(q g hg).1,fun g hg=>(q g hg).2⟩,hl⟩
theorem Bd : ∀ (ys out:List PAct),(ys.foldl jY out).length≤out.length+ys.length
  | [],out=>ah _
  | a::r,out=>by
    have:=Bd r (jY out a);have:=(NS out a).2
    simp only [mc,lC];omega
theorem zn : ∀ (gs:List PGaz),(∀ g,g∈gs→g.acts.length≤8)→∀ out,(bZ gs out).length≤out.length+8 * gs.length
  | [],_,out=>ah _
  | g::r,hb,out=>by
    have:=zn r (fun x hx=>hb x (fK _ hx)) (g.acts.foldl jY out)
    have:=Bd g.acts out
    have:=hb g (fg ..)
    simp only [bZ,mc,lC] at *
    omega
theorem NR {out:List PAct} {a b:PAct} (h:b∈jY out a):b∈out∨b=a:=by
  unfold jY at h
  split at h
  · exact .inl h
  · rcases jV.1 h with h | h
    · exact .inl h
    · exact .inr (pE.1 h)
theorem Bc : ∀ (ys out:List PAct) (b:PAct),b∈ys.foldl jY out→b∈out∨b∈ys
  | [],out,b,h=> .inl h
  | a::r,out,b,h=>by
    rcases Bc r (jY out a) b h with h | h
    · rcases NR h with h | rfl
      · exact .inl h
      · exact .inr (fg ..)
    · exact .inr (fK _ h)
theorem zl : ∀ (gs:List PGaz) (out:List PAct) (b:PAct),b∈bZ gs out→b∈out∨∃ g,g∈gs∧b∈g.acts
  | [],out,b,h=> .inl h
  | g::r,out,b,h=>by
    rcases zl r (g.acts.foldl jY out) b h with h | ⟨g2,q1,q2⟩
    · rcases Bc g.acts out b h with h | h
      · exact .inl h
      · exact .inr ⟨g,fg ..,h⟩
    · exact .inr ⟨g2,fK _ q1,q2⟩
theorem uf : ∀ (l:List PAct),(∀ a,a∈l→a.items.length≤24)→(kq l).length≤24 * l.length
  | [],_=>ah _
  | a::r,h=>by
    have:=uf r fun b hb=>h b (fK _ hb)
    have:=h a (fg ..)
    simp only [kq,EU,lA,lj,lC] at *
    omega
theorem OkG.act {gs:List PGaz} (h:OkG gs) {a:PAct} (ha:a∈eD gs):a.items.length≤24∧(∀ x,x∈a.items→mN x=true)∧QZ a:=by
  have ha:=(ji gs).mem_iff.1 ha
  rcases zl gs [] a ha with q | ⟨g,h1,h2⟩
  · cases q
  · exact ⟨(h.items g h1 a h2).1,(h.items g h1 a h2).2,(h.fit.2 g h1).2 a h2⟩
/-- The items as they stand. -/
noncomputable def lF (gs:List PGaz):List PDeed:=bI (am (eD gs) []) (eD gs)
theorem OkG.lens {gs:List PGaz} (h:OkG gs):(eD gs).length≤72∧(lF gs).length≤1728:=by
  have h1:=zn gs h.acts []
  have h2:=(ji gs).length_eq
  have h3:=uf (eD gs) fun a ha=>(h.act ha).1
  have h4:=h.len
  have h5:(lF gs).length=(kq (eD gs)).length:=cX ..
  simp only [lN] at h1
  omega
theorem OkG.all {gs:List PGaz} (h:OkG gs):kP 63 [.ls (gs.map aM)] (.ls ((eD gs).map av))∧kP 64 [.ls (gs.map aM)] (.ls ((lF gs).map aY)):=by
  have h1:=h.lens
  have h2:=(ji gs).length_eq
  have h3:(lF gs).length=(kq (eD gs)).length:=cX ..
  have h4:=h.len
  exact ⟨KT gs h.fit (fun g hg=>pz (h.acts g hg) (by decide)) (by omega) (by omega),Pb gs h.fit (fun g hg=>pz (h.acts g hg) (by decide)) (by omega) (by omega) (fun a ha=>pz (h.act ha).1 (by decide)) (by omega)⟩
theorem V9 {x y:PItem} (h:mN x=true) (hy:y∈x.by_):mN y=true:=by
  rw [Dh] at h
  simp only [bJ] at h
  have:=nW.1 h.2.2.2.2.2 y hy
  unfold GS at this
  exact (nL.1 this).2
theorem V8 {x y:PItem} (h:nQ x) (hy:y∈x.by_):nQ y:=(qf.1 h).2.2.2.2.2.2 y hy
theorem EP {K V:Type} {keq:K→K→Bool} {k:K} {v:V} : ∀ {l:List (K × V)} {e:K × V},e∈fe keq k v l→e∈l∨e.2=v
  | [],e,h=>by
    rw [fe,pE] at h;exact .inr (by rw [h])
  | (j,u)::r,e,h=>by
    rw [fe] at h
    cases q:keq k j with
    | true=>
      rw [q] at h
      rcases eP.1 h with h | h
      · exact .inr (by rw [h])
      · exact .inl (fK _ h)
    | false=>
      rw [q] at h
      rcases eP.1 h with h | h
      · exact .inl (by rw [h];exact fg ..)
      · rcases EP (l:=r) h with h | h
        · exact .inl (fK _ h)
        · exact .inr h
theorem F4 {K V:Type} {keq:K→K→Bool} {k:K} {v:V} : ∀ {l:List (K × V)},nG keq k l=some v→∃ e,e∈l∧e.2=v
  | [],h=>by cases h
  | (j,u)::r,h=>by
    rw [nG] at h
    cases q:keq k j with
    | true=>rw [q] at h;exact ⟨(j,u),fg ..,I7 h⟩
    | false=>
      rw [q] at h
      obtain ⟨e,h1,h2⟩:=F4 (l:=r) h
      exact ⟨e,fK _ h1,h2⟩
theorem MI {m:List ((Int × Int) × PItem)} {x:PItem} (hm : ∀ e,e∈m→v9 e.2) (h1:mN x=true) (h2:nQ x) : ∀ e,e∈jf m x→v9 e.2:=by
  unfold jf
  split
  · rename_i h
    simp only [bJ] at h
    have hl:=au h.1.2
    have hy:gD x.by_ 0∈x.by_:=gH (by simp only [oN] at hl;omega)
    intro e he
    rcases EP he with q | q
    · exact hm e q
    · rw [q];exact OR (V8 h2 hy) (V9 h1 hy)
  · exact hm
theorem Cd : ∀ (xs:List PItem) (m:List ((Int × Int) × PItem)),(∀ e,e∈m→v9 e.2)→(∀ x,x∈xs→mN x=true∧nQ x)→∀ e,e∈xs.foldl jf m→v9 e.2
  | [],_,hm,_=>hm
  | x::r,m,hm,h=>Cd r (jf m x) (MI hm (h x (fg ..)).1 (h x (fg ..)).2) fun y hy=>h y (fK _ hy)
theorem Cc : ∀ (l:List PAct) (m:List ((Int × Int) × PItem)),(∀ e,e∈m→v9 e.2)→(∀ a,a∈l→∀ x,x∈a.items→mN x=true∧nQ x)→∀ e,e∈am l m→v9 e.2
  | [],_,hm,_=>hm
  | a::r,m,hm,h=>Cc r (a.items.foldl jf m) (Cd a.items m hm (h a (fg ..))) fun b hb=>h b (fK _ hb)
theorem zR (a:PAct) : ∀ (l:List PItem) (i:Nat) (d:PDeed),d∈bP a l i→d.it∈l
  | [],_,d,h=>by cases h
  | x::r,i,d,h=>by
    rcases eP.1 h with rfl | h
    · exact fg ..
    · exact fK _ (zR a r _ d h)
theorem OkG.deed {gs:List PGaz} (h:OkG gs) {d:PDeed} (hd:d∈lF gs):v9 d.it:=by
  have hi : ∀ a,a∈eD gs→∀ x,x∈a.items→mN x=true∧nQ x:=fun a ha x hx=>⟨(h.act ha).2.1 x hx,(h.act ha).2.2.2 x hx⟩
  obtain ⟨o,ho,rfl⟩:=jK.1 hd
  obtain ⟨a,ha,hoa⟩:=List.mem_flatMap.1 ho
  have h1:=hi a ha _ (zR a _ _ _ hoa)
  have h2:v9 o.it:=OR h1.2 h1.1
  unfold lV
  split
  · rename_i hc
    have hc:=(nL.1 hc).1
    unfold qb at hc
    show v9 (Hy (am (eD gs) []) o)
    unfold Hy
    cases q:nG o9 (o.act,o.item) (am (eD gs) []) with
    | none=>rw [q] at hc;cases hc
    | some v=>
      obtain ⟨e,e1,e2⟩:=F4 q
      have:=Cc (eD gs) [] (fun e he=>by cases he) hi e e1
      rw [e2] at this
      exact this
  · exact h2
/-- What is in force. -/
noncomputable def jW (day:Int) (p:aP) (gs:List PGaz):List PDeed:=W0 day p (eD gs) (lF gs)
noncomputable def kU (day:Int) (p:aP) (gs:List PGaz):TUnit:=dJ rb (jW day p gs)
theorem OkG.force {gs:List PGaz} (h:OkG gs) (day:Int) (p:aP):(jW day p gs).length<2 ^ 30∧(∀ d,d∈jW day p gs→v9 d.it)∧kP 20 [iV day, .str p, .ls (gs.map aM)] (.ls ((jW day p gs).map aY)):=by
  have hl:=h.lens
  have h1:(jW day p gs).length≤(lF gs).length:=List.length_filter_le ..
  exact ⟨by omega,fun d hd=>h.deed (sF.1 hd).1,WS gs _ _ day p (by omega) (by omega) h.all.1 h.all.2⟩
theorem OkG.book {gs:List PGaz} (h:OkG gs) (day:Int) (p:aP):kP 12 [iV day, .str p, .ls (gs.map aM)] (eU (kU day p gs)):=
  QO gs day p _ (h.force day p).1 (h.force day p).2.1 (h.force day p).2.2
theorem OkG.okB {gs:List PGaz} (h:OkG gs) (day:Int) (p:aP):OkB (kU day p gs):=G1 Iu (h.force day p).2.1
noncomputable abbrev UN (a i:Int):AV:= .agg [iV a,iV i]
theorem N0 {xs ys:List AV} {n:Nat} (h:xs.length=n):((xs++ys).drop 0).take n=xs:=List.take_left' h


/-- What the law of steps asks of what it calls. -/
structure StpC (day:Int) (p:aP) (gs:List PGaz) (X:List PDeed) (bk:Nat→TUnit) (er:Nat→Int):Prop where
  b : ∀ k,k<X.length→kP 25 [iV day, .str p,UN (gD X k).act (gD X k).item, .ls (gs.map aM)] (eU (bk k))
  t : ∀ k,k<X.length→kP 27 [iV day, .str p,UN (gD X k).act (gD X k).item, .ls (gs.map aM)] (eU (bk (k+1)))
  h : ∀ k,k<X.length→kP 28 [iV day, .str p,UN (gD X k).act (gD X k).item, .ls (gs.map aM)] (.bool (ab (er k) 0))
  a : ∀ k,k<X.length→kP 26 [eU (bk k),aY (gD X k)] (.tuple [eU (bk (k+1)),iV (er k)])
  s : ∀ k j,k=j→k≤X.length→kP 11 [eU (bk k),eU (bk j)] (.bool true)
  e:kP 12 [iV day, .str p, .ls (gs.map aM)] (eU (bk X.length))
  o:kP 20 [iV day, .str p, .ls (gs.map aM)] (.ls (X.map aY))
  z:kP 24 [] (eU (bk 0))
  l:X.length<2 ^ 30
def Nd (l:List PAct):Prop:=(l.map (·.number)).Nodup
theorem Ru {out:List PAct} {a:PAct} (h:Nd out):Nd (jY out a):=by
  unfold jY
  cases q:gg a.number (out.map fun b=>(b.number,true)) with
  | some v=>exact h
  | none=>
    unfold Nd
    rw [pB,List.nodup_append]
    refine ⟨h,by simp,fun x hx y hy=>?_⟩
    obtain ⟨b,hb,rfl⟩:=jK.1 hx
    simp only [ee,vn,pE] at hy
    rw [hy];exact oZ (out:=out) q b hb
theorem Ep : ∀ (ys out:List PAct),Nd out→Nd (ys.foldl jY out)
  | [],_,h=>h
  | _::r,_,h=>Ep r _ (Ru h)
theorem CY : ∀ (gs:List PGaz) (out:List PAct),Nd out→Nd (bZ gs out)
  | [],_,h=>h
  | g::r,_,h=>CY r _ (Ep g.acts _ h)
theorem T6 (gs:List PGaz):(eD gs).Pairwise fun a b=>eT a b=true:=by
  have h1:=(s6 iB (bZ gs []) [] .nil).2
  have h2:Nd (eD gs):=((ji gs).map _).nodup_iff.2 (CY gs [] (by simp [Nd]))
  have h3:(eD gs).Pairwise fun a b=>a.number≠b.number:=List.pairwise_map.1 h2
  refine (List.Pairwise.and h1 h3).imp fun {a b} h=>?_
  obtain ⟨p,q⟩:=h
  rw [kI]
  rw [← Bool.not_eq_true,kI] at p
  omega
/-- The legal order of amendments. -/
def WV (d e:PDeed):Prop:=d.day<e.day∨(d.day=e.day∧(d.act<e.act∨(d.act=e.act∧d.item<e.item)))
theorem m5 (a:PAct) : ∀ (l:List PItem) (i:Nat),(bP a l i).Pairwise WV∧∀ d,d∈bP a l i→d.act=a.number∧d.day=a.day∧Int.ofNat i≤d.item
  | [],_=>⟨.nil,fun _ h=>by cases h⟩
  | x::r,i=>by
    obtain ⟨h1,h2⟩:=m5 a r (i+1)
    refine ⟨.cons (fun d hd=>?_) h1,fun d hd=>?_⟩
    · obtain ⟨q1,q2,q3⟩:=h2 d hd
      exact .inr ⟨q2.symm, .inr ⟨q1.symm,by simp only [oN] at *;omega⟩⟩
    · rcases eP.1 hd with rfl | hd
      · exact ⟨rfl,rfl,Int.le_refl _⟩
      · obtain ⟨q1,q2,q3⟩:=h2 d hd
        exact ⟨q1,q2,by simp only [oN] at *;omega⟩
theorem wE : ∀ (L:List PAct),(L.Pairwise fun a b=>eT a b=true)→(kq L).Pairwise WV
  | [],_=> .nil
  | a::r,h=>by
    cases h with
    | cons h1 h2=>
      rw [kq,EU,List.pairwise_append]
      refine ⟨(m5 a _ 0).1,wE r h2,fun d hd e he=>?_⟩
      obtain ⟨b,hb,he⟩:=List.mem_flatMap.1 he
      have z:=(kI a b).1 (h1 b hb)
      obtain ⟨p1,p2,_⟩:=(m5 a _ 0).2 d hd
      obtain ⟨q1,q2,_⟩:=(m5 b _ 0).2 e he
      unfold WV;omega
theorem Iv (m:sE) (d:PDeed):(lV m d).act=d.act∧(lV m d).item=d.item∧(lV m d).day=d.day:=by
  unfold lV;split <;> exact ⟨rfl,rfl,rfl⟩
theorem Nq {gs:List PGaz} {a b:PAct} (ha:a∈eD gs) (hb:b∈eD gs) (e:a.number=b.number):a=b:=
  qg gs [] (fun _ _ h=>by cases h) a b ((ji gs).mem_iff.1 ha) ((ji gs).mem_iff.1 hb) e
end Go.Proofs.YtidehekfpcgelaaGreatDoor
