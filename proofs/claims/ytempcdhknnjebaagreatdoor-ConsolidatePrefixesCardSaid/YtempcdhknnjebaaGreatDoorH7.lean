/- Functions walked: what each of them answers, for the law of prefixes: part 7. Conditions: those that each theorem names. -/
import Derived.Test.YtempcdhknnjebaaGreatDoorH6
namespace Go.Proofs.YtempcdhknnjebaaGreatDoor
open Go Go.Ev
theorem vB:kP 68 [.nils] (.ls ((iG []).map aJ)):=(io [] (by simp)).onArgs (.cons Le.nils .nil)
theorem Ci {g:Int→Bool} {K:List Int} {x e:Nat} {S:List PSpan} (h:S=jB g (K.drop (x - 1))) (h1:1≤x) (h2:x<K.length) (hg:g (gD K (x - 1))=true) (he:e=x+1):S=⟨gD K (x - 1),gD K x⟩::jB g (K.drop (e - 1)):=by rw [h,BW h1 h2,hg,he]
theorem Cl {g:Int→Bool} {K:List Int} {x e:Nat} {S:List PSpan} (h:S=jB g (K.drop (x - 1))) (h1:1≤x) (h2:x<K.length) (hg:g (gD K (x - 1))=false) (he:e=x+1):S=jB g (K.drop (e - 1)):=by rw [h,BW h1 h2,hg,he]
theorem Ws:bY (dm (oG [])) = []:=rX (by have z:=zh [];exact Nat.le_zero.1 z)
theorem Vx {A B x y:List PSpan} (h1:A=x) (h2:B=y):x++y=A++B:=by rw [h1,h2]
theorem QU {A B x:List PSpan} (h1:A=x) (h2:B = []):x=A++B:=by rw [h1,h2,ez]
theorem TM {A B y:List PSpan} (h1:A = []) (h2:B=y):y=A++B:=by rw [h1,h2];rfl
theorem R8 {A r:List PSpan} {w:PSpan} (h:A=w::r) (hl:A.length≤1048577):r.length<2 ^ 30:=by rw [h,lC] at hl;omega
theorem RJ {A B:List PSpan} {w v:PSpan} {r s:List PSpan} (h:A=w::r) (k:B=v::s) (hl:A.length≤1048577) (kl:B.length≤1048577):small (r.length+1+((v::s).map aJ).length) 16=true:=by
  rw [h,lC] at hl;rw [k,lC] at kl
  rw [lM,lC];refine eb (m:=2 ^ 31) ?_ ?_ ?_ <;> omega
theorem II {B:List PSpan} {v:PSpan} {s:List PSpan} (k:B=v::s) (kl:B.length≤1048577):small ((v::s).map aJ).length 16=true:=by
  rw [k,lC] at kl
  rw [lM,lC];refine eb (m:=2 ^ 31) ?_ ?_ ?_ <;> omega
def Qx (F:Nat) (A:List PSpan) (B:List PSpan) (z20:List PSpan):Prop:=z20=A++B
noncomputable def Qz (F:Nat) (A:List PSpan) (B:List PSpan) (z20:List PSpan):List AV × List AObj:=([AV.ls (A.map aJ),AV.ls (B.map aJ),AV.func (Fn.func F) [] [],AV.nils,AV.ls (z20.map aJ),nV z20.length,iV 0], [])
def L4 (F:Nat) (A:List PSpan) (B:List PSpan) (z20:List PSpan) (z37:List Int):Prop:=z37=gS z20
noncomputable def L3 (F:Nat) (A:List PSpan) (B:List PSpan) (z20:List PSpan) (z37:List Int):List AV × List AObj:=([AV.ls (A.map aJ),AV.ls (B.map aJ),AV.func (Fn.func F) [] [],AV.ls (z37.map bd)], [])
def L2 (F:Nat) (A:List PSpan) (B:List PSpan) (z20:List PSpan) (z37:List Int):Prop:=z37=gS z20
noncomputable def L1 (F:Nat) (A:List PSpan) (B:List PSpan) (z20:List PSpan) (z37:List Int):List AV × List AObj:=([AV.ls (A.map aJ),AV.ls (B.map aJ),AV.func (Fn.func F) [] [],AV.ls (z37.map bd)], [])
theorem J6 (F:Nat) (op:Bool→Bool→Bool) (hF : ∀ x y,aM Tryz.prog G F [.bool x, .bool y] (.bool (op x y))) (e0:op false false=false) (a b:List PSpan) (ha:a.length<2 ^ 30) (hb:b.length<2 ^ 30) :
    aM Tryz.prog G 324 [.ls (a.map aJ), .ls (b.map aJ), .func (.func F) [] []] (.ls ((rb op a b).map aJ)):=by
  have nA:=io a ha
  have nB:=io b hb
  have hA:=lT a
  have hB:=lT b
  have hd:=L5 e0 (a:=a) (b:=b) rfl rfl
  generalize iG a=A at *
  generalize iG b=B at *
  have lA:=hA.len
  have lB:=hB.len
  have hasA : ∀ d,aM Tryz.prog G 67 [.ls (A.map aJ), .int .i64 d] (.bool (iK A d)):=fun d=>HM A d hA.sort (by omega)
  have hasB : ∀ d,aM Tryz.prog G 67 [.ls (B.map aJ), .int .i64 d] (.bool (iK B d)):=fun d=>HM B d hB.sort (by omega)
  obtain ⟨g,hg⟩ : ∃ g:Int→Bool,g=fun d=>op (iK A d) (iK B d):=⟨_,rfl⟩
  have hgv : ∀ d v0,op (iK A d) (iK B d)=v0→g d=v0:=fun d v0 h=>by rw [hg];exact h
  rw [← hg] at hd
  have hcl : ∀ x,x=A++B→(gS x).length<2 ^ 30:=fun x hx=>by
    have z:=zh x
    rw [hx,dL] at z
    rw [hx];omega
  have hll : ∀ x,x=A++B→x.length<2 ^ 22:=fun x hx=>by rw [hx,dL];omega
  obtain ⟨res,hres⟩ : ∃ res,res=rb op a b:=⟨_,rfl⟩
  rw [← hres] at hd ⊢
  have hdone : ∀ x y z,x=A++B→y=gS x→jB g y=z→iG z=res:=fun x y z h1 h2 h3=>by rw [← h3,h2,h1];exact hd
  clear hd hg hres hA hB
  have rr0 b' (h:(List.map aJ res)=b':=by first | rfl | exact hdone _ _ _ hz20 hz37 (by rw [hx1.2.2,km hx1.1 (by (first | omega | (simp only [aH] at *;omega)))]) | exact (hdone _ _ _ hz20 hz37 (by rw [hx1.2.2.2.2,km hx1.1 (by (first | omega | (simp only [aH] at *;omega))),ez])) | (rw [hdone _ _ _ hz20 hz37 (by rw [hx1.2.2,km hx1.1 (by (first | omega | (simp only [aH] at *;omega)))])]) | (rw [hdone _ _ _ hz20 hz37 (by rw [hx1.2.2.2.2,km hx1.1 (by (first | omega | (simp only [aH] at *;omega))),ez])])):=h;exact bp Tryz.func324<|Kp 1 nA<|Kp 0 nB<|Mg 2<|M0 .inn<|Mj (List PSpan) [0,1,2,7,20,21,22] (Qz F A B) (Qx F A B) (fun c=>Mg 0<|Mc A (fun e=>Ml 17 (eS<|by rw [e];rfl:Le (aW []) (aW (List.map aJ A)))<|Mz 17 (fun (_:([]:List AV) = [])=>Mg 1<|Mc B (fun e=>Ml 19 (eS<|by rw [e];rfl:Le (aW []) (aW (List.map aJ B)))<|Kl 0 20 bu<|Kf 1<|c [] (by exact QU (by assumption) (by assumption):[]=A++B)) fun e f i=>Ml 19 (eS<|by rw [i]:Le (aW (List.map aJ (e::f))) (aW (List.map aJ B)))<|M2 .apl (et (by exact o3 _ _:List.map aJ (e::f)≠ [])<|fM 2 aJ (e::f) fun _=>rfl) (by exact II (by assumption) lB:small (List.map aJ (e::f)).length 16=true)<|M2 (.fsl 0 [0,1,2,7] 20<|List.map aJ<|e::f) True.intro (cW (aU 0) (tA aJ (e::f) (List.map aJ<|e::f).length (by (simp only [bH,cE,dL];done):(e::f).length=(List.map aJ (e::f)).length))<|aX TE<|e::f)<|Ml 20 (eH (List.map aJ<|e::f) false<|aX TE<|e::f)<|Kl 0 21 (ln aJ<|e::f)<|Kf 0<|c (e::f) (by exact TM (by assumption) (by assumption):e::f=A++B))<|Mg 1<|Mc B (fun e=>Ml 19 (eS<|by rw [e];rfl:Le (aW []) (aW (List.map aJ B)))<|Kl 0 20 (eH [] true (aU 0:aY ([])=0))<|Kf 1<|c [] (by exact QU (by assumption) (by assumption):[]=A++B)) fun e f i=>Ml 19 (eS<|by rw [i]:Le (aW (List.map aJ (e::f))) (aW (List.map aJ B)))<|M2 .apl (et (by exact o3 _ _:List.map aJ (e::f)≠ [])<|fM 2 aJ (e::f) fun _=>rfl) (by exact II (by assumption) lB:small (List.map aJ (e::f)).length 16=true)<|M2 (.fsl 0 [0,1,2,7] 20<|List.map aJ<|e::f) True.intro (cW (aU 0) (tA aJ (e::f) (List.map aJ<|e::f).length (by (simp only [bH,cE,dL];done):(e::f).length=(List.map aJ (e::f)).length))<|aX TE<|e::f)<|Ml 20 (eH (List.map aJ<|e::f) false<|aX TE<|e::f)<|Kl 0 21 (ln aJ<|e::f)<|Kf 0<|c (e::f) (by exact TM (by assumption) (by assumption):e::f=A++B)) fun e f i=>Ml 17 (eS<|by rw [i]:Le (aW (List.map aJ (e::f))) (aW (List.map aJ A)))<|Me (P7 e f<|by exact R8 (by assumption) lA)<|Mg 0<|Mc B (fun i=>Ml 19 (eS<|by rw [i];rfl:Le (aW []) (aW (List.map aJ B)))<|Mg 0<|M2 (.fsl 0 [0,1,2,7] 20<|List.map aJ<|e::f) True.intro (cW (aU 0) (tA aJ (e::f) (f.length+1) rfl)<|aX TE<|e::f)<|Ml 20 (eH (List.map aJ<|e::f) false<|aX TE<|e::f)<|Kl 0 21 (ln aJ<|e::f)<|Kf 0<|c (e::f) (by exact QU (by assumption) (by assumption):e::f=A++B)) fun i j k=>Ml 19 (eS<|by rw [k]:Le (aW (List.map aJ (i::j))) (aW (List.map aJ B)))<|M2 .apl (et (by exact o3 _ _:List.map aJ (i::j)≠ [])<|fM 2 aJ (i::j) fun _=>rfl) (cW (aU 0) (by (simp only [bH,cE,dL];done):f.length+1=(List.map aJ (e::f)).length) (by exact RJ (by assumption) (by assumption) lA lB:small (f.length+1+(List.map aJ (i::j)).length) 16=true))<|M1 (.obj 0<|aZ 2 true (0+1)<|List.map aJ<|e::f++i::j) (congrArg (aZ 2 true<|0+1)<|dg (f:=aJ) (l:=e::f) (ws:=i::j))<|M2 (.fsl 0 [0,1,2,7] 20<|List.map aJ<|e::f++i::j) True.intro (cW (aU<|0+1) (tA aJ (e::f++i::j) (f.length+1+(List.map aJ<|i::j).length) (by (simp only [bH,cE,dL];done):(e::f++i::j).length=f.length+1+(List.map aJ (i::j)).length))<|aX TE<|e::f++i::j)<|Ml 20 (eH (List.map aJ<|e::f++i::j) false<|aX TE<|e::f++i::j)<|Kl 0 21 (ln aJ<|e::f++i::j)<|Kf 0<|c (e::f++i::j) (by exact Vx (by assumption) (by assumption):e::f++i::j=A++B)) fun c hz20=>have hz20:=hz20;lV Nat Nat (List Int) aJ c [0,1,2,7,20,21,22] (fun e _=>([aW<|A.map aJ,aW<|B.map aJ,bW (bX F) [] [],ab,aW<|c.map aJ,nV c.length,nV e],[])) (fun e _ f i j=>([aW<|A.map aJ,aW<|B.map aJ,bW (bX F) [] [],aI 0 f 0 i none,aW<|c.map aJ,nV c.length,nV e],[aZ 1 true f<|j.map bd])) (fun e=>oG c=oG e) (fun e _ f i=>f=i.length∧(0:Nat)<i.length∧oG c=i++oG e) (by rfl) (fun _ _ _ _ _ e f=>Kh 0 e<|Kp 0 FY<|Mj (List Int) [0,1,2,7] (L3 F A B c) (L4 F A B c) (fun e=>Kl 1 37 bu<|Kf 0<|e [] (by (unfold gS;rw [f];exact Ws.symm):[]=gS c)) fun e hz37=>have hz37:=hz37;have :=hz37 ▸ hcl _ hz20;Mg 1<|QD Nat Nat Nat (List PSpan) (1:Nat) [0,1,2,7,10,11] (fun c=>([aW<|A.map aJ,aW<|B.map aJ,bW (bX F) [] [],aW<|e.map bd,ab,nV c],[])) (fun c f i j=>([aW<|A.map aJ,aW<|B.map aJ,bW (bX F) [] [],aW<|e.map bd,aI 0 f 0 i none,nV c],[aZ 2 true f<|j.map aJ])) (fun c=>(1:Nat)≤c∧c≤2 ^ 30∧jB g e=jB g (e.drop<|c - 1)) (fun c _ f i=>(1:Nat)≤c∧c≤2 ^ 30∧f=i.length∧i.length<c∧jB g e=i++jB g (e.drop<|c - 1)) (fun c=>2 ^ 31 - c) (fun c _ _ _=>2 ^ 31 - c) (by exact ⟨al _,by omega,rfl⟩) (fun c hx1 f i=>have hx1:=hx1;have :=hx1.1;have :=hx1.2.1;Kl 2 40 (ln bd e)<|Ka 0 (Int.ofNat c) (Int.ofNat e.length) (fun _ _=>Kl 2 46 (DF c)<|Mx (aT bd (by (simp only [aH,bH,j9] at *;omega):c - 1<(e).length))<|Kp 4 (hasA<|gD e<|c - 1)<|Kp 1 (hasB<|gD e<|c - 1)<|Mp (hF (iK A<|gD e<|c - 1)<|iK B<|gD e<|c - 1)<|Mb (op (iK A<|gD e<|c - 1)<|iK B<|gD e<|c - 1) (fun _=>Kx 3 (aT bd (by (simp only [aH,bH,j9] at *;omega):c<(e).length))<|Kl 6 43 (jo c)<|Kf 0<|i (c+1) 0 1 [PSpan.mk (gD e<|c - 1)<|gD e c] (by exact ⟨by (omega),by (simp only [aH] at *;omega),rfl,by (simp only [cE,gq];omega),Ci hx1.2.2 hx1.1 (by (simp only [aH] at *;omega)) (hgv _ _ (by assumption)) rfl⟩)<|by (omega)) fun _=>Kl 1 43 (jo c)<|Kf 0<|f (c+1) (by exact ⟨by (omega),by (simp only [aH] at *;omega),Cl hx1.2.2 hx1.1 (by (simp only [aH] at *;omega)) (hgv _ _ (by assumption)) rfl⟩)<|by (omega)) fun _ _=>Kp 0 vB<|Kf 0<|cw<|rr0<|List.map aJ<|iG []) fun c i j k hx1 _ l=>have hx1:=hx1;have :=hx1.1;have :=hx1.2.1;Kl 2 40 (ln bd e)<|Ka 0 (Int.ofNat c) (Int.ofNat e.length) (fun _ _=>Kl 2 46 (DF c)<|Mx (aT bd (by (simp only [aH,bH,j9] at *;omega):c - 1<(e).length))<|Kp 4 (hasA<|gD e<|c - 1)<|Kp 1 (hasB<|gD e<|c - 1)<|Mp (hF (iK A<|gD e<|c - 1)<|iK B<|gD e<|c - 1)<|Mb (op (iK A<|gD e<|c - 1)<|iK B<|gD e<|c - 1) (fun _=>Kx 3 (aT bd (by (simp only [aH,bH,j9] at *;omega):c<(e).length))<|K1 2 .app (cW (aU i) (by (rw [bH];first | exact f.1 | exact hx1.2.2.1):j=(List.map aJ k).length) (by (refine eb (m:=2 ^ 31) ?_ ?_ ?_ <;> first | omega | (simp only [bH,cE,dL,gq];omega) | (have z:=congrArg List.length f.2.2;rw [jO,dL] at z;have z9:=hll _ hz20;have z2:=f.1;first | omega | (simp only [cE,gq];omega)) | (have z:=hx1.2.2.2.1;have z2:=hx1.2.2.1;have z3:=hx1.2.1;first | omega | (simp only [cE,gq];omega))):small (j+1) 16=true))<|M1 (.obj 0<|aZ 2 true (i+1)<|List.map aJ<|k++ [PSpan.mk (gD e<|c - 1)<|gD e c]) (congrArg (aZ 2 true<|i+1)<|dg (f:=aJ) (l:=k) (ws:=[PSpan.mk (gD e<|c - 1)<|gD e c]))<|Kl 2 43 (jo c)<|Kf 0<|l (c+1) (i+1) (j+1) (k++ [PSpan.mk (gD e<|c - 1)<|gD e c]) (by exact ⟨by (omega),by (simp only [aH] at *;omega),by rw [dL,← hx1.2.2.1];rfl,by (have z:=hx1.2.2.2.1;simp only [dL,cE,gq];omega),by rw [hx1.2.2.2.2,Ci rfl hx1.1 (by (simp only [aH] at *;omega)) (hgv _ _ (by assumption)) rfl];simp⟩)<|by (omega)) fun _=>Kl 1 43 (jo c)<|Kf 0<|l (c+1) i j k (by exact ⟨by (omega),by (simp only [aH] at *;omega),hx1.2.2.1,by (have z:=hx1.2.2.2.1;omega),by rw [hx1.2.2.2.2,Cl rfl hx1.1 (by (simp only [aH] at *;omega)) (hgv _ _ (by assumption)) rfl]⟩)<|by (omega)) fun _ _=>Mg 0<|M2 (.fsl 0 [] 66<|List.map aJ k) True.intro (cW (aU i) (tA aJ k j (by (omega):(k).length=j))<|aX TE k)<|Ml 66 (eH (List.map aJ k) false<|aX TE k)<|Mp (io k<|by (omega))<|Kf 0<|cw<|rr0<|List.map aJ<|iG k) (fun e _ _ _ f i _ j _ k _ l n=>have :=hll _ hz20;Kt 0 k<|Mx l<|Kl 11 33 (jo e)<|Mg 0<|M0 (.ren [1,0] [] [0,1,2,7,20,21,22])<|M1 (.frz 1 [0,1,2,7,20,21,22]) (et (aU true) True.intro)<|Mf<|j 0 2 [f.from_,f.to]<|by exact ⟨rfl,by simp,by rw [n];rfl⟩) (fun _ _ e f i _ _ _ j k=>Kh 0 j<|Ke 0 (HG i e f (by (omega)) (by (omega))<|by (have z:=congrArg List.length k.2.2;rw [jO,dL] at z;have z9:=hll _ hz20;omega))<|Mj (List Int) [0,1,2,7] (L1 F A B c) (L2 F A B c) (fun j=>Ke 0 (Ae (dm i) e f (by (rw [(kq _).length_eq];first | exact k.1 | exact k.2.1 | (have z:=congrArg List.length k.2.2;rw [jO,dL] at z;have z9:=hll _ hz20;omega))) (by (rw [(kq _).length_eq];first | exact k.1 | exact k.2.1 | (have z:=congrArg List.length k.2.2;rw [jO,dL] at z;have z9:=hll _ hz20;omega)))<|by (rw [(kq _).length_eq];first | exact k.1 | exact k.2.1 | (have z:=congrArg List.length k.2.2;rw [jO,dL] at z;have z9:=hll _ hz20;omega)))<|M2 (.fsl 0 [0,1,2] 37<|List.map bd<|List.take (bY<|dm i).length<|bY (dm i)++List.replicate ((dm i).length - (bY<|dm i).length) 0) True.intro (cW (aU e) (A6 (f:=bd) (l:=bY (dm i)++List.replicate ((dm i).length - (bY<|dm i).length) 0) (n:=(bY<|dm i).length))<|aX VX<|List.take (bY<|dm i).length<|bY (dm i)++List.replicate ((dm i).length - (bY<|dm i).length) 0)<|Ml 37 (eH (List.map bd<|List.take (bY<|dm i).length<|bY (dm i)++List.replicate ((dm i).length - (bY<|dm i).length) 0) false<|aX VX<|List.take (bY<|dm i).length<|bY (dm i)++List.replicate ((dm i).length - (bY<|dm i).length) 0)<|Kf 0<|j (List.take (bY<|dm i).length<|bY (dm i)++List.replicate ((dm i).length - (bY<|dm i).length) 0) (by (unfold gS;rw [k.2.2];simp [oG]):List.take (bY (dm i)).length (bY (dm i)++List.replicate ((dm i).length - (bY (dm i)).length) (0:Int))=gS c)) fun e hz37=>have hz37:=hz37;have :=hz37 ▸ hcl _ hz20;Mg 1<|QD Nat Nat Nat (List PSpan) (1:Nat) [0,1,2,7,10,11] (fun c=>([aW<|A.map aJ,aW<|B.map aJ,bW (bX F) [] [],aW<|e.map bd,ab,nV c],[])) (fun c f i j=>([aW<|A.map aJ,aW<|B.map aJ,bW (bX F) [] [],aW<|e.map bd,aI 0 f 0 i none,nV c],[aZ 2 true f<|j.map aJ])) (fun c=>(1:Nat)≤c∧c≤2 ^ 30∧jB g e=jB g (e.drop<|c - 1)) (fun c _ f i=>(1:Nat)≤c∧c≤2 ^ 30∧f=i.length∧i.length<c∧jB g e=i++jB g (e.drop<|c - 1)) (fun c=>2 ^ 31 - c) (fun c _ _ _=>2 ^ 31 - c) (by exact ⟨al _,by omega,rfl⟩) (fun c hx1 f i=>have hx1:=hx1;have :=hx1.1;have :=hx1.2.1;Kl 2 40 (ln bd e)<|Ka 0 (Int.ofNat c) (Int.ofNat e.length) (fun _ _=>Kl 2 46 (DF c)<|Mx (aT bd (by (simp only [aH,bH,j9] at *;omega):c - 1<(e).length))<|Kp 4 (hasA<|gD e<|c - 1)<|Kp 1 (hasB<|gD e<|c - 1)<|Mp (hF (iK A<|gD e<|c - 1)<|iK B<|gD e<|c - 1)<|Mb (op (iK A<|gD e<|c - 1)<|iK B<|gD e<|c - 1) (fun _=>Kx 3 (aT bd (by (simp only [aH,bH,j9] at *;omega):c<(e).length))<|Kl 6 43 (jo c)<|Kf 0<|i (c+1) 0 1 [PSpan.mk (gD e<|c - 1)<|gD e c] (by exact ⟨by (omega),by (simp only [aH] at *;omega),rfl,by (simp only [cE,gq];omega),Ci hx1.2.2 hx1.1 (by (simp only [aH] at *;omega)) (hgv _ _ (by assumption)) rfl⟩)<|by (omega)) fun _=>Kl 1 43 (jo c)<|Kf 0<|f (c+1) (by exact ⟨by (omega),by (simp only [aH] at *;omega),Cl hx1.2.2 hx1.1 (by (simp only [aH] at *;omega)) (hgv _ _ (by assumption)) rfl⟩)<|by (omega)) fun _ _=>Kp 0 vB<|Kf 0<|cw<|rr0<|List.map aJ<|iG []) fun c f i j hx1 _ l=>have hx1:=hx1;have :=hx1.1;have :=hx1.2.1;Kl 2 40 (ln bd e)<|Ka 0 (Int.ofNat c) (Int.ofNat e.length) (fun _ _=>Kl 2 46 (DF c)<|Mx (aT bd (by (simp only [aH,bH,j9] at *;omega):c - 1<(e).length))<|Kp 4 (hasA<|gD e<|c - 1)<|Kp 1 (hasB<|gD e<|c - 1)<|Mp (hF (iK A<|gD e<|c - 1)<|iK B<|gD e<|c - 1)<|Mb (op (iK A<|gD e<|c - 1)<|iK B<|gD e<|c - 1) (fun _=>Kx 3 (aT bd (by (simp only [aH,bH,j9] at *;omega):c<(e).length))<|K1 2 .app (cW (aU f) (by (rw [bH];first | exact k.1 | exact hx1.2.2.1):i=(List.map aJ j).length) (by (refine eb (m:=2 ^ 31) ?_ ?_ ?_ <;> first | omega | (simp only [bH,cE,dL,gq];omega) | (have z:=congrArg List.length k.2.2;rw [jO,dL] at z;have z9:=hll _ hz20;have z2:=k.1;first | omega | (simp only [cE,gq];omega)) | (have z:=hx1.2.2.2.1;have z2:=hx1.2.2.1;have z3:=hx1.2.1;first | omega | (simp only [cE,gq];omega))):small (i+1) 16=true))<|M1 (.obj 0<|aZ 2 true (f+1)<|List.map aJ<|j++ [PSpan.mk (gD e<|c - 1)<|gD e c]) (congrArg (aZ 2 true<|f+1)<|dg (f:=aJ) (l:=j) (ws:=[PSpan.mk (gD e<|c - 1)<|gD e c]))<|Kl 2 43 (jo c)<|Kf 0<|l (c+1) (f+1) (i+1) (j++ [PSpan.mk (gD e<|c - 1)<|gD e c]) (by exact ⟨by (omega),by (simp only [aH] at *;omega),by rw [dL,← hx1.2.2.1];rfl,by (have z:=hx1.2.2.2.1;simp only [dL,cE,gq];omega),by rw [hx1.2.2.2.2,Ci rfl hx1.1 (by (simp only [aH] at *;omega)) (hgv _ _ (by assumption)) rfl];simp⟩)<|by (omega)) fun _=>Kl 1 43 (jo c)<|Kf 0<|l (c+1) f i j (by exact ⟨by (omega),by (simp only [aH] at *;omega),hx1.2.2.1,by (have z:=hx1.2.2.2.1;omega),by rw [hx1.2.2.2.2,Cl rfl hx1.1 (by (simp only [aH] at *;omega)) (hgv _ _ (by assumption)) rfl]⟩)<|by (omega)) fun _ _=>Mg 0<|M2 (.fsl 0 [] 66<|List.map aJ j) True.intro (cW (aU f) (tA aJ j i (by (omega):(j).length=i))<|aX TE j)<|Ml 66 (eH (List.map aJ j) false<|aX TE j)<|Mp (io j<|by (omega))<|Kf 0<|cw<|rr0<|List.map aJ<|iG j) fun e _ f i j _ _ k l _ n _ o _ p q=>have :=hll _ hz20;Kt 0 o<|Mx p<|K1 8 .app (cW (aU f) (by (rw [bH];first | exact q.1 | exact hx1.2.2.1):i=(List.map bd j).length) (by (refine eb (m:=2 ^ 31) ?_ ?_ ?_ <;> first | omega | (simp only [bH,cE,dL,gq];omega) | (have z:=congrArg List.length q.2.2;rw [jO,dL] at z;have z9:=hll _ hz20;have z2:=q.1;first | omega | (simp only [cE,gq];omega)) | (have z:=hx1.2.2.2.1;have z2:=hx1.2.2.1;have z3:=hx1.2.1;first | omega | (simp only [cE,gq];omega))):small (i+2) 8=true))<|M1 (.obj 0<|aZ 1 true (f+1)<|List.map bd<|j++ [k.from_,k.to]) (congrArg (aZ 1 true<|f+1)<|dg (f:=bd) (l:=j) (ws:=[k.from_,k.to]))<|Kl 1 33 (jo e)<|K1 0 (.frz 1 [0,1,2,7,20,21,22]) (et (tR 1 true (f+1) 1<|aX VX<|j++ [k.from_,k.to]) True.intro)<|Mf<|n (f+1) (i+2) (j++ [k.from_,k.to])<|by exact ⟨by rw [dL,← q.1];rfl,by simp,by rw [q.2.2,BP];simp⟩
theorem Uk (x y:Bool):kP 325 [.bool x, .bool y] (.bool (x || y)):=by
  have rr0 b' (h:(x || y)=b':=by simp only [aS,aj,bS, *]):=h;exact bp Tryz.func325<|Kb 2 x (fun a=>MV a<|Ky 0<|rr0 true) fun a=>Kw 0 a<|Ky 0<|rr0 y
theorem Tj (x y:Bool):kP 326 [.bool x, .bool y] (.bool (x && y)):=by
  have rr0 b' (h:(x && y)=b':=by simp only [aS,aj,bS, *]):=h;exact bp Tryz.func326<|Kb 2 x (fun a=>Ku 0 a<|Ky 0<|rr0 y) fun a=>My a<|Ky 0<|rr0 false
theorem NK (a b:List PSpan) (ha:a.length<2 ^ 30) (hb:b.length<2 ^ 30):kP 278 [.ls (a.map aJ), .ls (b.map aJ)] (.ls ((rb (· || ·) a b).map aJ)):=by
  have h:=J6 325 (· || ·) Uk rfl a b ha hb
  exact bp Tryz.func278<|Kp 2 h<|Kf 0<|bv<|aW<|(rb (fun c d=>c || d) a b).map aJ
theorem OM (a b:List PSpan) (ha:a.length<2 ^ 30) (hb:b.length<2 ^ 30):kP 281 [.ls (a.map aJ), .ls (b.map aJ)] (.ls ((rb (· && ·) a b).map aJ)):=by
  have h:=J6 326 (· && ·) Tj rfl a b ha hb
  exact bp Tryz.func281<|Kp 2 h<|Kf 0<|bv<|aW<|(rb (fun c d=>c && d) a b).map aJ
noncomputable def oW (a:List PSpan) (d:Int):List PSpan:=rb (· && ·) a [⟨0,d⟩]
noncomputable def pV (a:List PSpan) (d:Int):List PSpan:=rb (· || ·) (oW a d) [⟨d,1048577⟩]
theorem ri (a:List PSpan) (d:Int):NrmS (oW a d):=yf _
theorem tj (a:List PSpan) (d:Int):NrmS (pV a d):=yf _
theorem EZ (a:List PSpan) (d:Int) (ha:a.length<2 ^ 30):kP 216 [.ls (a.map aJ),iV d] (.ls ((oW a d).map aJ)):=by
  have h:kP 281 [.ls (a.map aJ), .ps [aJ ⟨0,d⟩] true] (.ls ((oW a d).map aJ)):=(OM a [⟨0,d⟩] ha (by simp)).onArgs (.cons (Le.refl _) (.cons (Le.ps _ _ rfl) .nil))
  exact bp Tryz.func216<|Kp 4 h<|Kf 0<|bv<|aW<|(oW a d).map aJ
theorem Pn (a:List PSpan) (d:Int) (ha:a.length<2 ^ 30):kP 214 [.ls (a.map aJ),iV d] (.ls ((pV a d).map aJ)):=by
  have h0:=EZ a d ha
  have hl:=(ri a d).len
  have h:kP 278 [.ls ((oW a d).map aJ), .ps [aJ ⟨d,1048577⟩] true] (.ls ((pV a d).map aJ)):=(NK (oW a d) [⟨d,1048577⟩] (by omega) (by simp)).onArgs (.cons (Le.refl _) (.cons (Le.ps _ _ rfl) .nil))
  exact bp Tryz.func214<|Kp 2 h0<|Kp 2 h<|Kf 0<|bv<|aW<|(pV a d).map aJ
noncomputable def rk (k:Int):Bool:=ae k 7 || ae k 9
noncomputable def ky (k:Int):Bool:=rk k || ae k 8
noncomputable def rK (k:Int):AV:=match rk k with | true=> .func (.func 214) [] [] | false=>match ae k 8 with | true=> .func (.func 216) [] [] | false=> .nilf
theorem yB (k:Int):eh (some .nilf) true (bz false 1 [(0,1)] (iV k) [⟨iV 7, .func (.func 214) [] [],0⟩,⟨iV 9, .func (.func 214) [] [],1⟩,⟨iV 8, .func (.func 216) [] [],2⟩] 0)=some (.tuple [rK k, .bool (ky k)]):=by
  unfold rK ky rk
  simp only [bz,pP,H7,kZ]
  cases h1:ae k 7 <;> cases h2:ae k 9 <;> cases h3:ae k 8 <;> rfl
theorem Nz {k:Int} (h:rk k=true):Le (.func (.func 214) [] []) (rK k):=by unfold rK;rw [h];exact Le.refl _
theorem Q4 {k:Int} (h:rk k=false) (h2:ky k=true):Le (.func (.func 216) [] []) (rK k):=by
  unfold ky at h2;rw [h,Bool.false_or] at h2
  unfold rK;rw [h,h2];exact Le.refl _
noncomputable def Nj:List AEnt:= [⟨iV 7, .func (.func 214) [] [],0⟩,⟨iV 9, .func (.func 214) [] [],1⟩,⟨iV 8, .func (.func 216) [] [],2⟩]
theorem Q2 (x:PItem):kD 119 [] (aa [.row 25 false 0 [eI x]]) (.map 1) (aa [.row 25 false 0 [eI x], .map Nj 3]):=by
  exact fH Tryz.func119 fun a=>Kf 6 a
theorem Q3 (s:PStart) (d o:PDeed):kD 119 [] (aa [.row 3 false 0 [an s], .row 28 false 0 [az d], .row 28 false 0 [az o]]) (.map 3) (aa [.row 3 false 0 [an s], .row 28 false 0 [az d], .row 28 false 0 [az o], .map Nj 3]):=by
  exact fH Tryz.func119 fun a=>Kf 6 a
noncomputable def qa (x:PItem) (a i:Int):Bool:=ae x.act a && (match ae x.kind 11 with | true=>ae x.item i | false=>ky x.kind && (ae x.item i || ae x.item (-1)))
theorem KP (x:PItem) (a i:Int):kP 120 [eI x,iV a,iV i] (.bool (qa x a i)):=by
  have hlk:=yB
  have rr0 b' (h:(qa x a i)=b':=by unfold qa;generalize ae x.act a=p1 at *;generalize ae x.kind 11=p2 at *;generalize ae x.item i=p3 at *;generalize ae x.item (-1)=p4 at *;generalize ky x.kind=p5 at *;simp only [aS,aj,bS, *]):=h;let q:= [av [iV x.kind,aW (x.at_.map ax),aW (x.to.map ax),iV x.where_,iV x.nth_,iV x.unit.act,iV x.unit.item,iV x.unit.n,iV x.unit.kind,ak x.unit.label,aW (x.unit.head.map aQ),aW (x.unit.words.map aQ),aW (x.unit.kids.map aK),aW (x.old.map mr),aW (x.new.map mr),ak x.label,ak x.for_,iV x.start.kind,iV x.start.day,ak x.start.event,iV x.act,iV x.item,iV x.day,ak x.event,aW (x.by_.map LL)]];let q1:=bW (bX 214) [] [];exact bp Tryz.func120<|Kc 5 x.act a (fun _ _=>Ky 0<|rr0 false) fun _ _=>Kj 2 x.kind 11 (fun _ _=>Kf 4<|cq<|rr0<|ae x.item i) fun _ _=>M3 (.efx true (AV.map 1)<|aa [aZ 25 false 0 q,AObj.map [AEnt.mk (iV 7) q1 0,AEnt.mk (iV 9) q1 1,AEnt.mk (iV 8) (bW (bX 216) [] []) 2] 3]) (et rt ti) (et (aU<|some<|aZ 25 false 0 q) ti) (Q2 x)<|K1 1 (.look<|cV [rK x.kind,eJ<|ky x.kind]) (hlk x.kind)<|Kb 6 (ky x.kind) (fun b=>Kt 0 b<|Kt 0 b<|Kt 0 b<|Kt 0 b<|Kj 0 x.item i (fun c _=>Mt c<|Mt c<|Mt b<|MV c<|MV b<|Ky 0<|rr0 true) fun c _=>Kh 0 c<|Kh 0 c<|Kt 0 b<|My c<|MV b<|Kf 0<|cq<|rr0<|ae x.item (-1)) fun b=>Mh b<|Mh b<|Mh b<|Mh b<|Mh b<|My b<|Ky 0<|rr0 false
noncomputable abbrev gw (nm:aO):AObj:= .row 1 false 0 [.str nm]
noncomputable def ra (nm:aO) (d:PDeed):Bool:=ae d.it.kind 10 && dH d.it.event nm
theorem Pp (nm:aO) (d:PDeed):kD 280 [az d, .ptr 0 0 0 0] (aa [gw nm]) (.bool (ra nm d)) (aa [gw nm]):=by
  let q:=aa [aZ 1 false 0 [ak nm]];exact QM Tryz.func280<|Kj 6 d.it.kind 10 (fun a _=>Kt 0 a<|Kt 0 a<|Kt 0 a<|Kt 0 a<|Ku 0 a<|K1 0 (.frz 1 [3]) (et rt ti)<|Mf<|et (by unfold ra;generalize ae d.it.kind 10=p1 at *;generalize dH d.it.event nm=p2 at *;simp only [aS,aj,bS, *]:(AV.bool (dH d.it.event nm))=(AV.bool (ra nm d)))<|aU q) fun a _=>Mh a<|Mh a<|Mh a<|Mh a<|My a<|K1 0 (.frz 1 [3]) (et rt ti)<|Mf<|et (by unfold ra;generalize ae d.it.kind 10=p1 at *;generalize dH d.it.event nm=p2 at *;simp only [aS,aj,bS, *]:(AV.bool false)=(AV.bool (ra nm d)))<|aU q
noncomputable def iP (nm:aO):List PDeed→Nat→Int
  | [],_=> -1
  | d::r,i=>match ra nm d with | true=>Int.ofNat i | false=>iP nm r (i+1)
theorem Jt (nm:aO) : ∀ (l:List PDeed) (i:Nat),iP nm l i<Int.ofNat (i+l.length)∧(0≤iP nm l i∨iP nm l i = -1)
  | [],i=>⟨by simp only [iP,oN];omega, .inr rfl⟩
  | d::r,i=>by
    have:=Jt nm r (i+1)
    cases h:ra nm d <;> simp only [iP,h,oN,lC] at * <;> omega
theorem We {nm:aO} {d:PDeed} {r:List PDeed} {i:Nat} (h:ra nm d=true):iP nm (d::r) i=Int.ofNat i:=by simp only [iP,h]
theorem Wf {nm:aO} {d:PDeed} {r:List PDeed} {i:Nat} (h:ra nm d=false):iP nm (d::r) i=iP nm r (i+1):=by simp only [iP,h]
theorem Bu (nm:aO) (l:List PDeed) (hl:l.length<2 ^ 40):kD 279 [.ls (l.map az), .func (.func 280) [] [.ptr 0 0 0 0]] (aa [gw nm]) (iV (iP nm l 0)) (aa [gw nm]):=by
  let q:=aa [aZ 1 false 0 [ak nm]];exact QM Tryz.func279<|Kl 2 7 (ln az l)<|Mg 0<|uW az l [0,1,7,8] (fun a _=>([aW<|l.map az,bW (bX 280) [] [bJ 0 0 0 0],nV l.length,nV a],[aZ 1 false 0 [ak nm]])) (fun a=>iP nm l (0:Nat)=iP nm a (l.length - a.length)) (by (rw [Nat.sub_self])) (fun _ _ _ _ _ a b=>Kh 0 a<|Kf 0<|et (by (rw [b];rfl):(iV (-1))=(iV (iP nm l 0)))<|aU q) fun a _ b _ c d e f g _ h i=>have :=g0 b f;Kt 0 g<|Kx 4 h<|Ke 0 (Pp nm c)<|Mb (ra nm c) (fun _=>Kf 1<|et (by (rw [i,We (by assumption)];congr 2;have z:=HU (b.trans f) (by simp) (by simp only [lC];omega:(l.length - (d.length+1))+(c::d).length=l.length);exact z):(nV a)=(iV (iP nm l 0)))<|aU q) fun _=>Kl 0 18 (dt a)<|Kf 0<|e<|by (rw [i,Wf (by assumption)];congr 1;have:=g0 b f;simp only [lC];omega)
theorem Po (d:Int):kP 214 [.nils,iV d] (.ls ((pV [] d).map aJ)):=(Pn [] d (by simp)).onArgs (.cons Le.nils (.cons (Le.refl _) .nil))
theorem H4 (nm:aO) (l:List PDeed) (hl:l.length<2 ^ 40) (h:ar (iP nm l 0) 0=true):kP 215 [.str nm, .ls (l.map az)] (.tuple [iV 0, .bool false]):=by
  exact bp Tryz.func215<|Ke 4 (Bu nm l hl)<|Kt 2 h<|Kf 1<|bv<|cV [iV 0,eJ false]
theorem H5 (nm:aO) (l:List PDeed) (hl:l.length<2 ^ 40) (h:ar (iP nm l 0) 0=false):kP 215 [.str nm, .ls (l.map az)] (.tuple [iV (gD l (iP nm l 0).toNat).it.day, .bool true]):=by
  have g1:=aF h
  have g2:=(Jt nm l 0).1
  exact bp Tryz.func215<|Ke 4 (Bu nm l hl)<|Kh 2 h<|Kl 1 13 (zT (x:=iP nm l 0) oA)<|Mx (aT az (by (simp only [oN,lM,lS] at *;omega):(iP nm l 0).toNat<(l).length))<|Kf 4<|bv<|cV [iV (gD l (iP nm l 0).toNat).it.day,eJ true]
noncomputable def kE (s:PStart) (l:List PDeed):List PSpan:=match ae s.kind 1 with | true=>pV [] s.day | false=>match ae s.kind 3 with | true=>(match ar (iP s.event l 0) 0 with | true=> [] | false=>pV [] (gD l (iP s.event l 0).toNat).it.day) | false=> []
theorem Lg (s:PStart) (l:List PDeed) (hl:l.length<2 ^ 40) (hi:ar (iP s.event l 0) 0=true):kP 117 [an s, .ls (l.map az)] (.ls ((kE s l).map aJ)):=by
  have he:=H4 s.event l hl hi
  have e:kE s l=match ae s.kind 1 with | true=>pV [] s.day | false=> []:=(by unfold kE;rw [hi];cases ae s.kind 1 <;> cases ae s.kind 3 <;> rfl)
  rw [e]
  have rr0 b' (h:((match ae s.kind 1 with | true=>pV [] s.day | false=> []).map aJ)=b':=by generalize ae s.kind 1=p1 at *;(rw [h0]);try rfl):=h;exact bp Tryz.func117<|Kj 5 s.kind 1 (fun h0 _=>Kp 1 (Po s.day)<|Kf 0<|cw<|rr0<|(pV [] s.day).map aJ) fun h0 _=>Kj 1 s.kind 3 (fun _ _=>Kp 2 he<|Kf 7 (Le.lsn<|rr0 []:Le _ (ab))) fun _ _=>Kf 0 (Le.lsn<|rr0 []:Le _ (ab))
theorem Lh (s:PStart) (l:List PDeed) (hl:l.length<2 ^ 40) (hi:ar (iP s.event l 0) 0=false):kP 117 [an s, .ls (l.map az)] (.ls ((kE s l).map aJ)):=by
  have he:=H5 s.event l hl hi
  have e:kE s l=match ae s.kind 1 with | true=>pV [] s.day | false=>match ae s.kind 3 with | true=>pV [] (gD l (iP s.event l 0).toNat).it.day | false=> []:=(by unfold kE;rw [hi])
  rw [e]
  have rr0 b' (h:((match ae s.kind 1 with | true=>pV [] s.day | false=>match ae s.kind 3 with | true=>pV [] (gD l (iP s.event l 0).toNat).it.day | false=> []).map aJ)=b':=by generalize ae s.kind 1=p1 at *;generalize ae s.kind 3=p3 at *;(rw [h0]);(first | rw [h1] | skip);try rfl):=h;exact bp Tryz.func117<|Kj 5 s.kind 1 (fun h0 _=>Kp 1 (Po s.day)<|Kf 0<|cw<|rr0<|(pV [] s.day).map aJ) fun h0 _=>Kj 1 s.kind 3 (fun h1 _=>Kp 2 he<|Kp 7 (Po (gD l (iP s.event l 0).toNat).it.day)<|Kf 0<|cw<|rr0<|(pV [] (gD l (iP s.event l 0).toNat).it.day).map aJ) fun h1 _=>Kf 0 (Le.lsn<|rr0 []:Le _ (ab))
theorem HI (s:PStart) (l:List PDeed) (hl:l.length<2 ^ 40):kP 117 [an s, .ls (l.map az)] (.ls ((kE s l).map aJ)):=by
  cases hi:ar (iP s.event l 0) 0
  · exact Lh s l hl hi
  · exact Lg s l hl hi
noncomputable def rp (d o:PDeed) (days:List PSpan):List PSpan:=match ky o.it.kind && qa o.it d.act d.item with | true=>(match rk o.it.kind with | true=>pV days o.it.day | false=>oW days o.it.day) | false=>days
noncomputable def lq (d:PDeed):List PDeed→List PSpan→List PSpan
  | [],days=>days
  | o::r,days=>lq d r (rp d o days)
noncomputable def dw (s:PStart) (d:PDeed) (l:List PDeed):List PSpan:=match ar d.it.kind 0 || ar 6 d.it.kind with | true=> [] | false=>lq d l (kE (effS s d.it.start) l)
theorem Li (s:PStart) (l:List PDeed):(kE s l).length≤1048577:=by
  have h:=fun d=>(tj [] d).len
  unfold kE
  cases ae s.kind 1 <;> cases ae s.kind 3 <;> cases ar (iP s.event l 0) 0 <;> simp only [lN] <;> first | exact h _ | omega
theorem me (s:PStart) (d:PDeed) (l:List PDeed) (hl:l.length<2 ^ 40):kP 66 [an s,az d, .ls (l.map az)] (.ls ((dw s d l).map aJ)):=by
  have hlk:=yB
  have hle1 : ∀ k,rk k=true→Le (.func (.func 214) [] []) (rK k):=fun k h=>Nz h
  have hle2 : ∀ k,rk k=false→ky k=true→Le (.func (.func 216) [] []) (rK k):=fun k h h2=>Q4 h h2
  have hil:=Li (effS s d.it.start) l
  have hin : ∀ b,(ar d.it.kind 0 || ar 6 d.it.kind)=b→dw s d l=match b with | true=> [] | false=>lq d l (kE (effS s d.it.start) l):=fun b h=>by unfold dw;rw [h]
  have hst : ∀ (o:PDeed) (r:List PDeed) (days:List PSpan),lq d (o::r) days=lq d r (rp d o days):=fun o r days=>rfl
  have rr0 b' (h:((dw s d l).map aJ)=b':=by first | (rw [hin true (by simp only [aS,aj,bS, *];try rfl)];rfl) | (rw [hin false (by simp only [aS,aj,bS, *];try rfl)];first | exact congrArg _ hj0.2 | exact congrArg _ hj0.2.symm | (rw [hj0.2];rfl))):=h;let q1:= [av [iV d.act,iV d.item,iV d.day,iV d.it.kind,aW (d.it.at_.map ax),aW (d.it.to.map ax),iV d.it.where_,iV d.it.nth_,iV d.it.unit.act,iV d.it.unit.item,iV d.it.unit.n,iV d.it.unit.kind,ak d.it.unit.label,aW (d.it.unit.head.map aQ),aW (d.it.unit.words.map aQ),aW (d.it.unit.kids.map aK),aW (d.it.old.map mr),aW (d.it.new.map mr),ak d.it.label,ak d.it.for_,iV d.it.start.kind,iV d.it.start.day,ak d.it.start.event,iV d.it.act,iV d.it.item,iV d.it.day,ak d.it.event,aW (d.it.by_.map LL)]];let q2:= [av [iV s.kind,iV s.day,ak s.event]];let q3:=bW (bX 214) [] [];exact bp Tryz.func66<|Ka 7 d.it.kind 0 (fun a _=>Mt a<|Mt a<|Mt a<|MV a<|Kf 1 (Le.lsn<|rr0 []:Le _ (ab))) fun a _=>Kh 0 a<|Kh 0 a<|Kh 0 a<|Kw 0 a<|Mb (ar 6 d.it.kind) (fun a=>have :=au a;Kf 0 (Le.lsn<|rr0 []:Le _ (ab))) fun a=>have :=aF a;Kp 3 (GJ s d.it.start)<|Kp 0 (HI (effS s d.it.start) l hl)<|Kl 2 30 (ln az l)<|Mg 0<|TR (0:Nat) l (kE (effS s d.it.start) l) [4,7,29,30,31] (fun a _ c=>([bJ 1 0 0 0,aW<|c.map aJ,aW<|l.map az,nV l.length,nV a],[aZ 3 false 0 [av [iV s.kind,iV s.day,ak s.event]],aZ 28 false 0 [av [iV d.act,iV d.item,iV d.day,iV d.it.kind,aW<|d.it.at_.map ax,aW<|d.it.to.map ax,iV d.it.where_,iV d.it.nth_,iV d.it.unit.act,iV d.it.unit.item,iV d.it.unit.n,iV d.it.unit.kind,ak d.it.unit.label,aW<|d.it.unit.head.map aQ,aW<|d.it.unit.words.map aQ,aW<|d.it.unit.kids.map aK,aW<|d.it.old.map mr,aW<|d.it.new.map mr,ak d.it.label,ak d.it.for_,iV d.it.start.kind,iV d.it.start.day,ak d.it.start.event,iV d.it.act,iV d.it.item,iV d.it.day,ak d.it.event,aW<|d.it.by_.map LL]]])) (fun a c e=>(l).drop a=c∧e.length≤1048577∧lq d l (kE (effS s d.it.start) l)=lq d c e) (fun _ a _=>a.length) (et rfl<|by (exact ⟨hil,rfl⟩)) fun a c e f g=>Mc c (fun a=>have c:=gy f.1 a;have hj0:=jV (J:=fun a c=>c.length≤1048577∧lq d l (kE (effS s d.it.start) l)=lq d a c) (a:=e) a f.2;Kh 0 c<|Kf 1<|cw<|rr0<|e.map aJ) fun c i j=>let m:=[av [iV c.act,iV c.item,iV c.day,iV c.it.kind,aW<|c.it.at_.map ax,aW<|c.it.to.map ax,iV c.it.where_,iV c.it.nth_,iV c.it.unit.act,iV c.it.unit.item,iV c.it.unit.n,iV c.it.unit.kind,ak c.it.unit.label,aW<|c.it.unit.head.map aQ,aW<|c.it.unit.words.map aQ,aW<|c.it.unit.kids.map aK,aW<|c.it.old.map mr,aW<|c.it.new.map mr,ak c.it.label,ak c.it.for_,iV c.it.start.kind,iV c.it.start.day,ak c.it.start.event,iV c.it.act,iV c.it.item,iV c.it.day,ak c.it.event,aW<|c.it.by_.map LL]];have n:=gc f.1 j;have :=au n;have p:=gv (enc:=az) f.1 j;have hj0:=cG (J:=fun a c=>c.length≤1048577∧lq d l (kE (effS s d.it.start) l)=lq d a c) (a:=e) j f.2;Kt 0 n<|Mx p<|Mg 2<|M3 (.efx true (AV.map 3)<|aa [aZ 3 false 0 q2,aZ 28 false 0 q1,aZ 28 false 0 m,AObj.map [AEnt.mk (iV 7) q3 0,AEnt.mk (iV 9) q3 1,AEnt.mk (iV 8) (bW (bX 216) [] []) 2] 3]) (j5 rt rt rt ti) (j5 (aU<|some<|aZ 28 false 0 m) (aU<|some<|aZ 28 false 0 q1) (aU<|some<|aZ 3 false 0 q2) ti) (Q3 s d c)<|K1 2 (.look<|cV [rK c.it.kind,eJ<|ky c.it.kind]) (hlk c.it.kind)<|Kb 6 (ky c.it.kind) (fun m=>Kt 0 m<|Kt 0 m<|Kt 0 m<|Kt 0 m<|Kt 0 m<|Kt 0 m<|Mp (KP c.it d.act d.item)<|MV m<|Mb (qa c.it d.act d.item) (fun _=>Ks 4 (rk c.it.kind) (fun m=>Ml 53 (hle1 c.it.kind m)<|Mp (Pn e c.it.day oA)<|Kl 1 59 (dt a)<|K1 0 (.frz 2 [4,7,29,30,31]) (cW rt rt ti)<|Mf<|g (a+1) i (pV e c.it.day) (et (bP f.1 j)<|by exact ⟨(tj _ _).len,by rw [hj0.2,hst];simp only [rp, *];rfl⟩)<|fu j) fun n=>Ml 53 (hle2 c.it.kind n m)<|Mp (EZ e c.it.day oA)<|Kl 1 59 (dt a)<|K1 0 (.frz 2 [4,7,29,30,31]) (cW rt rt ti)<|Mf<|g (a+1) i (oW e c.it.day) (et (bP f.1 j)<|by exact ⟨(ri _ _).len,by rw [hj0.2,hst];simp only [rp, *];rfl⟩)<|fu j) fun _=>Kl 0 59 (dt a)<|K1 0 (.frz 2 [4,7,29,30,31]) (cW rt rt ti)<|Mf<|g (a+1) i e (et (bP f.1 j)<|by exact ⟨hj0.1,by rw [hj0.2,hst];simp only [rp,aS,aj,bS, *];try rfl⟩)<|fu j) fun c=>Mh c<|Mh c<|Mh c<|Mh c<|Mh c<|Mh c<|My c<|Kl 1 59 (dt a)<|K1 0 (.frz 2 [4,7,29,30,31]) (cW rt rt ti)<|Mf<|g (a+1) i e (et (bP f.1 j)<|by exact ⟨hj0.1,by rw [hj0.2,hst];simp only [rp,aS,aj,bS, *];try rfl⟩)<|fu j
noncomputable abbrev iy (d:Int):AObj:= .row 1 false 0 [iV d]
noncomputable abbrev pL:AObj:= .row 1 false 0 [.nils]
noncomputable abbrev pY (i ep n:Nat):AObj:= .row 1 false 0 [.slice i ep 0 n none]
noncomputable abbrev dX (m:List (Int × PStart)):AObj:= .map (bF an m 0) m.length
noncomputable abbrev gj (d:PDeed):AObj:= .row 28 false 0 [az d]
noncomputable abbrev pK (ep:Nat) (l:List PDeed):AObj:= .row 28 true ep (l.map az)
def dl:PStart:=⟨0,0, []⟩
def cR (m:List (Int × PStart)) (k:Int):PStart:=(gi k m).getD dl
theorem yC (m:List (Int × PStart)) (k:Int):eh (some (.agg [iV 0,iV 0, .str []])) false (bz false 1 [(0,1)] (iV k) (bF an m 0) 0)=some (an (cR m k)):=by
  rw [yE]
  cases h:gi k m <;> simp only [cR,h,Option.getD] <;> rfl
theorem AM (m:List (Int × PStart)) (a:PAct):qR (bF an m 0) m.length (iV a.number) (.agg [iV a.start.kind,iV a.start.day, .str a.start.event]) (bz false 1 [(0,1)] (iV a.number) (bF an m 0) 0)=some (bF an (kz a.number a.start m) 0,(kz a.number a.start m).length):=AN (f:=an) a.number a.start m
/-- The starts of the acts by their numbers. -/
def wI (l:List PAct) (m:List (Int × PStart)):List (Int × PStart):=l.foldl (fun m a=>kz a.number a.start m) m
theorem Fv (s:PStart) (d:PDeed) (l:List PDeed):NrmS (dw s d l):=by
  have h1 : ∀ (s:PStart),NrmS (kE s l):=fun s=>by
    unfold kE
    cases ae s.kind 1 <;> cases ae s.kind 3 <;> cases ar (iP s.event l 0) 0 <;> first | exact wT | exact tj _ _
  have h2 : ∀ (r:List PDeed) (days:List PSpan),NrmS days→NrmS (lq d r days):=by
    intro r
    induction r with
    | nil=>intro days h;exact h
    | cons o r ih=>
      intro days h
      refine ih _ ?_
      unfold rp
      cases ky o.it.kind && qa o.it d.act d.item <;> cases rk o.it.kind <;> first | exact h | exact tj _ _ | exact ri _ _
  unfold dw
  cases ar d.it.kind 0 || ar 6 d.it.kind
  · exact h2 l _ (h1 _)
  · exact wT
theorem sX (s:PStart) (d:PDeed) (l:List PDeed) (day:Int):kP 41 [.ls ((dw s d l).map aJ),iV day] (.bool (iK (dw s d l) day)):=by
  have hn:=Fv s d l
  have h:=Gw (dw s d l) day (o4 hn.len (by decide))
  rwa [show iG (dw s d l)=dw s d l from (RC hn).symm] at h
/-- Whether an amendment is told: its purpose, its days. -/
noncomputable def UT (p:aO) (d:PDeed):Bool:=dH d.it.for_ [] || dH d.it.for_ p
noncomputable def Bk (day:Int) (p:aO) (m:List (Int × PStart)) (ds:List PDeed) (d:PDeed):Bool:=UT p d && iK (dw (cR m d.act) d ds) day
noncomputable def rx (day:Int) (p:aO) (m:List (Int × PStart)) (ds l:List PDeed):List PDeed:=l.filter fun d=>fw d.it.kind && Bk day p m ds d
theorem Xc (d:PDeed) (ss:List PSpan) (day:Int) (p:aO) (m:List (Int × PStart)) (hc:kP 41 [.ls (ss.map aJ),iV day] (.bool false)):kD 40 [az d, .ls (ss.map aJ), .ptr 1 0 0 0, .ptr 0 0 0 0, .ptr 2 0 0 0] (aa [iy day,gw p,pL,dX m,gj d]) (.tuple []) (aa [iy day,gw p,pL,dX m,gj d]):=by
  exact fH Tryz.func40 fun a=>Kb 5 (dH d.it.for_ (ByteArray.mk #[]).data.toList) (fun b=>Mt b<|Mt b<|Mt b<|Mt b<|MV b<|Kp 2 hc<|K1 1 (.frz 5 []) (xU rt (tM m.length 5<|aC (f:=an) (fun _=>rfl) m 0) rt rt rt ti)<|Mf a) fun b=>Kh 0 b<|Kh 0 b<|Kh 0 b<|Kh 0 b<|Kw 0 b<|Kb 0 (dH d.it.for_ p) (fun b=>Kt 0 b<|Kt 0 b<|Mp hc<|MV b<|K1 0 (.frz 5 []) (xU rt (tM m.length 5<|aC (f:=an) (fun _=>rfl) m 0) rt rt rt ti)<|Mf a) fun b=>Mh b<|Mh b<|My b<|K1 0 (.frz 5 []) (xU rt (tM m.length 5<|aC (f:=an) (fun _=>rfl) m 0) rt rt rt ti)<|Mf a
theorem Xb (d:PDeed) (ss:List PSpan) (day:Int) (p:aO) (m:List (Int × PStart)) (h1:dH d.it.for_ []=false) (h2:dH d.it.for_ p=false):kD 40 [az d, .ls (ss.map aJ), .ptr 1 0 0 0, .ptr 0 0 0 0, .ptr 2 0 0 0] (aa [iy day,gw p,pL,dX m,gj d]) (.tuple []) (aa [iy day,gw p,pL,dX m,gj d]):=by
  exact fH Tryz.func40 fun a=>Kh 5 h1<|Kh 0 h1<|Kh 0 h1<|Kh 0 h1<|Kh 0 h1<|Kw 0 h1<|Kh 0 h2<|Mh h2<|Mh h2<|My h2<|K1 0 (.frz 5 []) (xU rt (tM m.length 5<|aC (f:=an) (fun _=>rfl) m 0) rt rt rt ti)<|Mf a
theorem Xa (d:PDeed) (ss:List PSpan) (day:Int) (p:aO) (m:List (Int × PStart)) (hc:kP 41 [.ls (ss.map aJ),iV day] (.bool true)) (h1:dH d.it.for_ []=true):kD 40 [az d, .ls (ss.map aJ), .ptr 1 0 0 0, .ptr 0 0 0 0, .ptr 2 0 0 0] (aa [iy day,gw p,pL,dX m,gj d]) (.tuple []) (aa [iy day,gw p,pY 5 0 1,dX m,gj d,pK 0 [d]]):=by
  exact fH Tryz.func40 fun a=>Kt 5 h1<|Mt h1<|Mt h1<|Mt h1<|Mt h1<|MV h1<|Kp 2 hc<|K1 6 (.ren [0,1,2,3,4,6,5] [3] []) (tN m.length<|aC (f:=an) (fun _=>rfl) m 0)<|M1 (.frz 6 []) (LF rt rt (tM m.length 6<|aC (f:=an) (fun _=>rfl) m 0) rt rt rt ti)<|Mf a
theorem Xy (d:PDeed) (ss:List PSpan) (day:Int) (p:aO) (m:List (Int × PStart)) (hc:kP 41 [.ls (ss.map aJ),iV day] (.bool true)) (h1:dH d.it.for_ []=false) (h2:dH d.it.for_ p=true):kD 40 [az d, .ls (ss.map aJ), .ptr 1 0 0 0, .ptr 0 0 0 0, .ptr 2 0 0 0] (aa [iy day,gw p,pL,dX m,gj d]) (.tuple []) (aa [iy day,gw p,pY 5 0 1,dX m,gj d,pK 0 [d]]):=by
  exact fH Tryz.func40 fun a=>Kh 5 h1<|Kh 0 h1<|Kh 0 h1<|Kh 0 h1<|Kh 0 h1<|Kw 0 h1<|Kt 0 h2<|Kt 0 h2<|Kt 0 h2<|Mp hc<|MV h2<|K1 5 (.ren [0,1,2,3,4,6,5] [3] []) (tN m.length<|aC (f:=an) (fun _=>rfl) m 0)<|M1 (.frz 6 []) (LF rt rt (tM m.length 6<|aC (f:=an) (fun _=>rfl) m 0) rt rt rt ti)<|Mf a
theorem Xv (d:PDeed) (ss:List PSpan) (day:Int) (p:aO) (m:List (Int × PStart)) (ep n:Nat) (out:List PDeed) (hc:kP 41 [.ls (ss.map aJ),iV day] (.bool false)):kD 40 [az d, .ls (ss.map aJ), .ptr 1 0 0 0, .ptr 0 0 0 0, .ptr 2 0 0 0] (aa [iy day,gw p,pY 4 ep n,dX m,pK ep out,gj d]) (.tuple []) (aa [iy day,gw p,pY 4 ep n,dX m,pK ep out,gj d]):=by
  exact fH Tryz.func40 fun a=>Kb 5 (dH d.it.for_ (ByteArray.mk #[]).data.toList) (fun b=>Mt b<|Mt b<|Mt b<|Mt b<|MV b<|Kp 2 hc<|K1 1 (.frz 6 []) (LF rt (tR 28 true ep 6<|aX wW out) (tM m.length 6<|aC (f:=an) (fun _=>rfl) m 0) rt rt rt ti)<|Mf a) fun b=>Kh 0 b<|Kh 0 b<|Kh 0 b<|Kh 0 b<|Kw 0 b<|Kb 0 (dH d.it.for_ p) (fun b=>Kt 0 b<|Kt 0 b<|Mp hc<|MV b<|K1 0 (.frz 6 []) (LF rt (tR 28 true ep 6<|aX wW out) (tM m.length 6<|aC (f:=an) (fun _=>rfl) m 0) rt rt rt ti)<|Mf a) fun b=>Mh b<|Mh b<|My b<|K1 0 (.frz 6 []) (LF rt (tR 28 true ep 6<|aX wW out) (tM m.length 6<|aC (f:=an) (fun _=>rfl) m 0) rt rt rt ti)<|Mf a
theorem Xw (d:PDeed) (ss:List PSpan) (day:Int) (p:aO) (m:List (Int × PStart)) (ep n:Nat) (out:List PDeed) (h1:dH d.it.for_ []=false) (h2:dH d.it.for_ p=false):kD 40 [az d, .ls (ss.map aJ), .ptr 1 0 0 0, .ptr 0 0 0 0, .ptr 2 0 0 0] (aa [iy day,gw p,pY 4 ep n,dX m,pK ep out,gj d]) (.tuple []) (aa [iy day,gw p,pY 4 ep n,dX m,pK ep out,gj d]):=by
  exact fH Tryz.func40 fun a=>Kh 5 h1<|Kh 0 h1<|Kh 0 h1<|Kh 0 h1<|Kh 0 h1<|Kw 0 h1<|Kh 0 h2<|Mh h2<|Mh h2<|My h2<|K1 0 (.frz 6 []) (LF rt (tR 28 true ep 6<|aX wW out) (tM m.length 6<|aC (f:=an) (fun _=>rfl) m 0) rt rt rt ti)<|Mf a
theorem Xk (d:PDeed) (ss:List PSpan) (day:Int) (p:aO) (m:List (Int × PStart)) (ep n:Nat) (out:List PDeed) (hn:n=out.length) (hn2:n<2 ^ 20) (hc:kP 41 [.ls (ss.map aJ),iV day] (.bool true)) (h1:dH d.it.for_ []=true):kD 40 [az d, .ls (ss.map aJ), .ptr 1 0 0 0, .ptr 0 0 0 0, .ptr 2 0 0 0] (aa [iy day,gw p,pY 4 ep n,dX m,pK ep out,gj d]) (.tuple []) (aa [iy day,gw p,pY 4 (ep+1) (n+1),dX m,pK (ep+1) (out++ [d]),gj d]):=by
  exact fH Tryz.func40 fun a=>Kt 5 h1<|Mt h1<|Mt h1<|Mt h1<|Mt h1<|MV h1<|Kp 2 hc<|K1 4 .app (cW (aU ep) (by (rw [lM];exact hn):n=(out.map az).length) (by exact eb (m:=2 ^ 21) (by omega) (by decide) (by decide):small (n+1) 392=true))<|M1 (.obj 4<|aZ 28 true (ep+1)<|(out++ [d]).map az) (congrArg (aZ 28 true<|ep+1)<|dg (f:=az) (l:=out) (ws:=[d]))<|K1 0 (.frz 6 []) (LF rt (tR 28 true (ep+1) 6<|aX wW<|out++ [d]) (tM m.length 6<|aC (f:=an) (fun _=>rfl) m 0) rt rt rt ti)<|Mf a
theorem Xj (d:PDeed) (ss:List PSpan) (day:Int) (p:aO) (m:List (Int × PStart)) (ep n:Nat) (out:List PDeed) (hn:n=out.length) (hn2:n<2 ^ 20) (hc:kP 41 [.ls (ss.map aJ),iV day] (.bool true)) (h1:dH d.it.for_ []=false) (h2:dH d.it.for_ p=true):kD 40 [az d, .ls (ss.map aJ), .ptr 1 0 0 0, .ptr 0 0 0 0, .ptr 2 0 0 0] (aa [iy day,gw p,pY 4 ep n,dX m,pK ep out,gj d]) (.tuple []) (aa [iy day,gw p,pY 4 (ep+1) (n+1),dX m,pK (ep+1) (out++ [d]),gj d]):=by
  exact fH Tryz.func40 fun a=>Kh 5 h1<|Kh 0 h1<|Kh 0 h1<|Kh 0 h1<|Kh 0 h1<|Kw 0 h1<|Kt 0 h2<|Kt 0 h2<|Kt 0 h2<|Mp hc<|MV h2<|K1 3 .app (cW (aU ep) (by (rw [lM];exact hn):n=(out.map az).length) (by exact eb (m:=2 ^ 21) (by omega) (by decide) (by decide):small (n+1) 392=true))<|M1 (.obj 4<|aZ 28 true (ep+1)<|(out++ [d]).map az) (congrArg (aZ 28 true<|ep+1)<|dg (f:=az) (l:=out) (ws:=[d]))<|K1 0 (.frz 6 []) (LF rt (tR 28 true (ep+1) 6<|aX wW<|out++ [d]) (tM m.length 6<|aC (f:=an) (fun _=>rfl) m 0) rt rt rt ti)<|Mf a
theorem Tn {day:Int} {p:aO} {m:List (Int × PStart)} {ds:List PDeed} {d:PDeed} (h:Bk day p m ds d=false):kP 41 [.ls ((dw (cR m d.act) d ds).map aJ),iV day] (.bool false)∨(dH d.it.for_ []=false∧dH d.it.for_ p=false):=by
  unfold Bk UT at h
  have hz:=sX (cR m d.act) d ds day
  cases q:iK (dw (cR m d.act) d ds) day with
  | false=>rw [q] at hz;exact .inl hz
  | true=>rw [q,Bool.and_true,Au] at h;exact .inr h
theorem N7 {day:Int} {p:aO} {m:List (Int × PStart)} {ds:List PDeed} {d:PDeed} (h:Bk day p m ds d=true):kP 41 [.ls ((dw (cR m d.act) d ds).map aJ),iV day] (.bool true)∧(dH d.it.for_ []=true∨(dH d.it.for_ []=false∧dH d.it.for_ p=true)):=by
  unfold Bk UT at h
  obtain ⟨h1,h2⟩:=pv.1 h
  have hz:=sX (cR m d.act) d ds day
  rw [h2] at hz
  refine ⟨hz,?_⟩
  cases q:dH d.it.for_ [] with
  | true=>exact .inl rfl
  | false=>rw [q,Bool.false_or] at h1;exact .inr ⟨rfl,h1⟩
theorem WY (day:Int) (p:aO) (m:List (Int × PStart)) (ds:List PDeed) (d:PDeed) (hb:Bk day p m ds d=false):kD 40 [az d, .ls ((dw (cR m d.act) d ds).map aJ), .ptr 1 0 0 0, .ptr 0 0 0 0, .ptr 2 0 0 0] (aa [iy day,gw p,pL,dX m,gj d]) (.tuple []) (aa [iy day,gw p,pL,dX m,gj d]):=by
  rcases Tn hb with h | ⟨h1,h2⟩
  · exact Xc d _ day p m h
  · exact Xb d _ day p m h1 h2
theorem Xg (day:Int) (p:aO) (m:List (Int × PStart)) (ds:List PDeed) (d:PDeed) (hb:By (Bk day p m ds d) false):kD 40 [az d, .ls ((dw (cR m d.act) d ds).map aJ), .ptr 1 0 0 0, .ptr 0 0 0 0, .ptr 2 0 0 0] (aa [iy day,gw p,pL,dX m,gj d]) (.tuple []) (aa [iy day,gw p,pL,dX m,gj d]):=WY day p m ds d hb
theorem Xf (day:Int) (p:aO) (m:List (Int × PStart)) (ds:List PDeed) (d:PDeed) (hb:By (Bk day p m ds d) true):kD 40 [az d, .ls ((dw (cR m d.act) d ds).map aJ), .ptr 1 0 0 0, .ptr 0 0 0 0, .ptr 2 0 0 0] (aa [iy day,gw p,pL,dX m,gj d]) (.tuple []) (aa [iy day,gw p,pY 5 0 1,dX m,gj d,pK 0 [d]]):=by
  obtain ⟨h,h1 | ⟨h1,h2⟩⟩:=N7 hb
  · exact Xa d _ day p m h h1
  · exact Xy d _ day p m h h1 h2
theorem Xe (day:Int) (p:aO) (m:List (Int × PStart)) (ds:List PDeed) (d:PDeed) (ep n:Nat) (out:List PDeed) (hb:By (Bk day p m ds d) false):kD 40 [az d, .ls ((dw (cR m d.act) d ds).map aJ), .ptr 1 0 0 0, .ptr 0 0 0 0, .ptr 2 0 0 0] (aa [iy day,gw p,pY 4 ep n,dX m,pK ep out,gj d]) (.tuple []) (aa [iy day,gw p,pY 4 ep n,dX m,pK ep out,gj d]):=by
  rcases Tn hb with h | ⟨h1,h2⟩
  · exact Xv d _ day p m ep n out h
  · exact Xw d _ day p m ep n out h1 h2
theorem Xd (day:Int) (p:aO) (m:List (Int × PStart)) (ds:List PDeed) (d:PDeed) (ep n:Nat) (out:List PDeed) (hb:By (Bk day p m ds d) true) (hn:n=out.length) (hn2:n<2 ^ 20):kD 40 [az d, .ls ((dw (cR m d.act) d ds).map aJ), .ptr 1 0 0 0, .ptr 0 0 0 0, .ptr 2 0 0 0] (aa [iy day,gw p,pY 4 ep n,dX m,pK ep out,gj d]) (.tuple []) (aa [iy day,gw p,pY 4 (ep+1) (n+1),dX m,pK (ep+1) (out++ [d]),gj d]):=by
  obtain ⟨h,h1 | ⟨h1,h2⟩⟩:=N7 hb
  · exact Xk d _ day p m ep n out hn hn2 h h1
  · exact Xj d _ day p m ep n out hn hn2 h h1 h2
theorem OQ {day:Int} {p:aO} {m:List (Int × PStart)} {ds r:List PDeed} {d:PDeed} (h:fw d.it.kind=false):rx day p m ds (d::r)=rx day p m ds r:=by simp only [rx,List.filter_cons,h,Bool.false_and];rfl
theorem N9 {day:Int} {p:aO} {m:List (Int × PStart)} {ds r:List PDeed} {d:PDeed} (h:Bk day p m ds d=false):rx day p m ds (d::r)=rx day p m ds r:=by simp only [rx,List.filter_cons,h,xg];rfl
theorem N8 {day:Int} {p:aO} {m:List (Int × PStart)} {ds r:List PDeed} {d:PDeed} (h:fw d.it.kind=true) (h2:Bk day p m ds d=true):rx day p m ds (d::r)=d::rx day p m ds r:=by simp only [rx,List.filter_cons,h,h2];rfl
structure OnA (day:Int) (p:aO) (m:List (Int × PStart)) (ds r:List PDeed):Prop where
  f:rx day p m ds ds=rx day p m ds r
structure OnR (day:Int) (p:aO) (m:List (Int × PStart)) (ds r:List PDeed) (ep n:Nat) (out:List PDeed):Prop where
  len:n=out.length
  ep:ep+1=out.length
  small:out.length+r.length≤ds.length
  f:rx day p m ds ds=out++rx day p m ds r
theorem OnA.no {day:Int} {p:aO} {m:List (Int × PStart)} {ds r:List PDeed} {d:PDeed} (h:OnA day p m ds (d::r)) (ha:fw d.it.kind=false):OnA day p m ds r:=⟨by rw [h.f,OQ ha]⟩
theorem OnA.nil {day:Int} {p:aO} {m:List (Int × PStart)} {ds r:List PDeed} {d:PDeed} (h:OnA day p m ds (d::r)) (hb:Bk day p m ds d=false):OnA day p m ds r:=⟨by rw [h.f,N9 hb]⟩
theorem OnA.new {day:Int} {p:aO} {m:List (Int × PStart)} {ds r:List PDeed} {d:PDeed} {n:Nat} (h:OnA day p m ds (d::r)) (hl:(d::r).length≤ds.length) (ha:fw d.it.kind=true) (hb:Bk day p m ds d=true) (hn:n=1):OnR day p m ds r 0 n [d]:=⟨hn,rfl,by simp only [lC,lN] at *;omega,by rw [h.f,N8 ha hb];rfl⟩
theorem OnR.no {day:Int} {p:aO} {m:List (Int × PStart)} {ds r:List PDeed} {d:PDeed} {ep n:Nat} {out:List PDeed} (h:OnR day p m ds (d::r) ep n out) (ha:fw d.it.kind=false):OnR day p m ds r ep n out:=⟨h.len,h.ep,by have:=h.small;simp only [lC] at this;omega,by rw [h.f,OQ ha]⟩
theorem OnR.nil {day:Int} {p:aO} {m:List (Int × PStart)} {ds r:List PDeed} {d:PDeed} {ep n:Nat} {out:List PDeed} (h:OnR day p m ds (d::r) ep n out) (hb:Bk day p m ds d=false):OnR day p m ds r ep n out:=⟨h.len,h.ep,by have:=h.small;simp only [lC] at this;omega,by rw [h.f,N9 hb]⟩
theorem OnR.new {day:Int} {p:aO} {m:List (Int × PStart)} {ds r:List PDeed} {d:PDeed} {ep n k:Nat} {out:List PDeed} (h:OnR day p m ds (d::r) ep n out) (ha:fw d.it.kind=true) (hb:Bk day p m ds d=true) (hk:k=n+1):OnR day p m ds r (ep+1) k (out++ [d]):=by
  have:=h.len;have:=h.ep;have:=h.small
  refine ⟨?_,?_,?_,by rw [h.f,N8 ha hb,pf];rfl⟩ <;> simp only [lA,lC,lN] at * <;> omega
theorem OnR.done {day:Int} {p:aO} {m:List (Int × PStart)} {ds:List PDeed} {ep n:Nat} {out:List PDeed} (h:OnR day p m ds [] ep n out):ep=(rx day p m ds ds).length - 1∧n=(rx day p m ds ds).length∧out=rx day p m ds ds:=by
  have e:rx day p m ds ds=out:=by rw [h.f];exact ez _
  have:=h.len;have:=h.ep
  rw [e];exact ⟨by omega,by omega,rfl⟩
theorem UJ {α:Type} {l r:List α} {j:Nat} {a:α} (h:l.drop j=a::r):(a::r).length≤l.length:=by rw [← h,xd];omega
theorem To {day:Int} {p:aO} {m:List (Int × PStart)} {ds r:List PDeed} {d:PDeed} (h:rx day p m ds (d::r) = []) (ha:fw d.it.kind=true):Bk day p m ds d=false:=by
  cases q:Bk day p m ds d with
  | false=>rfl
  | true=>rw [N8 ha q] at h;cases h
theorem Vz (gs:List PGaz) (L:List PAct) (ds:List PDeed) (day:Int) (p:aO) (hL:L.length<10000) (hd:ds.length<100000) (ha:kP 63 [.ls (gs.map aq)] (.ls (L.map ay))) (hi:kP 64 [.ls (gs.map aq)] (.ls (ds.map az))) (hE:rx day p (wI L []) ds ds = []) :
    kD 39 [.ls (gs.map aq), .func (.func 40) [] [.ptr 1 0 0 0, .ptr 0 0 0 0, .ptr 2 0 0 0]] (aa [iy day,gw p,pL]) (.tuple []) (aa [iy day,gw p,pL]):=by
  have hlk:=yC
  have hup:=AM
  let q1:= [iV day];exact fH Tryz.func39 fun a=>Kp 2 ha<|Kl 0 13 (ln ay L)<|Mg 0<|MF ay L ([]:List (Int × PStart)) [0,1,4,12,13,14] (fun a _ b=>([aW<|gs.map aq,bW (bX 40) [] [bJ 1 0 0 0,bJ 0 0 0 0,bJ 2 0 0 0],AV.map 3,aW<|L.map ay,nV L.length,nV a],[aZ 1 false 0 [iV day],aZ 1 false 0 [ak p],aZ 1 false 0 [ab],AObj.map (bF an b 0) b.length])) (fun a b=>wI L []=wI a b) (by rfl) (fun _ _ b _ _ _ c d=>Kh 0 c<|Kp 0 hi<|Kl 2 27 (ln az ds)<|Mg 0<|TR (0:Nat) ds () [1,4,7,26,27,28] (fun a _ _=>([bW (bX 40) [] [bJ 1 0 0 0,bJ 0 0 0 0,bJ 2 0 0 0],AV.map 3,aW<|ds.map az,aW<|ds.map az,nV ds.length,nV a],[aZ 1 false 0 [iV day],aZ 1 false 0 [ak p],aZ 1 false 0 [ab],AObj.map (bF an b 0) b.length])) (fun a c _=>(ds).drop a=c∧rx day p b ds c= []) (fun _ a _=>a.length) (et rfl<|by (rw [← show wI L []=b from d];exact hE)) fun c d e f g=>Mc d (fun c=>have d:=gy f.1 c;have :=jV (J:=fun a _=>rx day p b ds a= []) (a:=e) c f.2;Kh 0 d<|M1 (.frz 3 []) (j5 rt rt rt ti)<|Mf a) fun a d h=>let i:=[av [iV a.act,iV a.item,iV a.day,iV a.it.kind,aW<|a.it.at_.map ax,aW<|a.it.to.map ax,iV a.it.where_,iV a.it.nth_,iV a.it.unit.act,iV a.it.unit.item,iV a.it.unit.n,iV a.it.unit.kind,ak a.it.unit.label,aW<|a.it.unit.head.map aQ,aW<|a.it.unit.words.map aQ,aW<|a.it.unit.kids.map aK,aW<|a.it.old.map mr,aW<|a.it.new.map mr,ak a.it.label,ak a.it.for_,iV a.it.start.kind,iV a.it.start.day,ak a.it.start.event,iV a.it.act,iV a.it.item,iV a.it.day,ak a.it.event,aW<|a.it.by_.map LL]];have j:=gc f.1 h;have :=au j;have k:=gv (enc:=az) f.1 h;have e:=cG (J:=fun a _=>rx day p b ds a= []) (a:=e) h f.2;Kt 0 j<|Mx k<|Kp 5 (mD a.it.kind)<|Mb (fw a.it.kind) (fun _=>K1 4 (.look<|av [iV (cR b a.act).kind,iV (cR b a.act).day,ak (cR b a.act).event]) (hlk b a.act)<|Kp 1 (me (cR b a.act) a ds<|by (omega))<|M3 (.efx true (cV [])<|aa [aZ 1 false 0 q1,aZ 1 false 0 [ak p],aZ 1 false 0 [ab],AObj.map (bF an b 0) b.length,aZ 28 false 0 i]) (xU rt (tM b.length 5<|aC (f:=an) (fun _=>rfl) b 0) rt rt rt ti) (xU (aU<|some<|aZ 28 false 0 i) (aU<|some<|AObj.map (bF an b 0) b.length) (aU<|some<|aZ 1 false 0 [ab]) (aU<|some<|aZ 1 false 0 [ak p]) (aU<|some<|aZ 1 false 0 q1) ti) (WY day p b ds a<|by exact To e (by assumption))<|Kl 0 46 (dt c)<|K1 0 (.frz 4 [1,4,7,26,27,28]) (GN (tM b.length 4<|aC (f:=an) (fun _=>rfl) b 0) rt rt rt ti)<|Mf<|g (c+1) d () (et (bP f.1 h)<|by (have z:=e;rw [N9 (To z (by assumption))] at z;exact z))<|fu h) fun _=>Kl 0 46 (dt c)<|K1 0 (.frz 4 [1,4,7,26,27,28]) (GN (tM b.length 4<|aC (f:=an) (fun _=>rfl) b 0) rt rt rt ti)<|Mf<|g (c+1) d () (et (bP f.1 h)<|by (have z:=e;rw [OQ (by assumption)] at z;exact z))<|fu h) fun a _ b _ _ c d e _ f _ g h=>Kt 0 f<|Mx g<|K1 7 (.upd (bF an (kz c.number c.start b) 0) (kz c.number c.start b).length) (hup b c)<|Kl 0 23 (dt a)<|K1 0 (.frz 4 [0,1,4,12,13,14]) (GN (tM (kz c.number c.start b).length 4<|aC (f:=an) (fun _=>rfl) (kz c.number c.start b) 0) rt rt rt ti)<|Mf<|e (kz c.number c.start b)<|by exact h
def Gg (gs:List PGaz) (L:List PAct) (day:Int) (p:aO) (x0:Nat × List PAct × List (Int × PStart)):Prop:=(L).drop x0.1=x0.2.1∧wI L []=wI x0.2.1 x0.2.2
noncomputable def wU (gs:List PGaz) (L:List PAct) (day:Int) (p:aO) (x0:Nat × List PAct × List (Int × PStart)):List AV × List AObj:=([AV.ls (gs.map aq),AV.func (Fn.func 40) [] [AV.ptr 1 0 0 0,AV.ptr 0 0 0 0,AV.ptr 2 0 0 0],AV.map 3,AV.ls (L.map ay),nV L.length,nV x0.1], [AObj.row 1 false 0 [iV day],AObj.row 1 false 0 [AV.str p],AObj.row 1 false 0 [AV.nils],AObj.map (bF an x0.2.2 0) x0.2.2.length])
def Gf (ds:List PDeed) (day:Int) (p:aO) (x0:Nat × List PAct × List (Int × PStart)) (x1:Nat × List PDeed × Unit):Prop:=(ds).drop x1.1=x1.2.1∧OnA day p x0.2.2 ds x1.2.1
noncomputable def wY (ds:List PDeed) (day:Int) (p:aO) (x0:Nat × List PAct × List (Int × PStart)) (x1:Nat × List PDeed × Unit):List AV × List AObj:=([AV.func (Fn.func 40) [] [AV.ptr 1 0 0 0,AV.ptr 0 0 0 0,AV.ptr 2 0 0 0],AV.map 3,AV.ls (ds.map az),AV.ls (ds.map az),nV ds.length,nV x1.1], [AObj.row 1 false 0 [iV day],AObj.row 1 false 0 [AV.str p],AObj.row 1 false 0 [AV.nils],AObj.map (bF an x0.2.2 0) x0.2.2.length])
def Ge (ds:List PDeed) (day:Int) (p:aO) (x0:Nat × List PAct × List (Int × PStart)) (x1:Nat × List PDeed × Nat × Nat × List PDeed):Prop:=(ds).drop x1.1=x1.2.1∧OnR day p x0.2.2 ds x1.2.1 x1.2.2.1 x1.2.2.2.1 x1.2.2.2.2
noncomputable def Gc (ds:List PDeed) (day:Int) (p:aO) (x0:Nat × List PAct × List (Int × PStart)) (x1:Nat × List PDeed × Nat × Nat × List PDeed):List AV × List AObj:=([AV.func (Fn.func 40) [] [AV.ptr 1 0 0 0,AV.ptr 0 0 0 0,AV.ptr 2 0 0 0],AV.map 3,AV.ls (ds.map az),AV.ls (ds.map az),nV ds.length,nV x1.1], [AObj.row 1 false 0 [iV day],AObj.row 1 false 0 [AV.str p],AObj.row 1 false 0 [AV.slice 4 x1.2.2.1 0 x1.2.2.2.1 none],AObj.map (bF an x0.2.2 0) x0.2.2.length,AObj.row 28 true x1.2.2.1 (x1.2.2.2.2.map az)])
theorem Vq (gs:List PGaz) (L:List PAct) (ds:List PDeed) (day:Int) (p:aO) (hL:L.length<10000) (hd:ds.length<100000) (ha:kP 63 [.ls (gs.map aq)] (.ls (L.map ay))) (hi:kP 64 [.ls (gs.map aq)] (.ls (ds.map az))) (hE:rx day p (wI L []) ds ds≠ []) :
    kD 39 [.ls (gs.map aq), .func (.func 40) [] [.ptr 1 0 0 0, .ptr 0 0 0 0, .ptr 2 0 0 0]] (aa [iy day,gw p,pL]) (.tuple []) (aa [iy day,gw p,pY 3 ((rx day p (wI L []) ds ds).length - 1) (rx day p (wI L []) ds ds).length,pK ((rx day p (wI L []) ds ds).length - 1) (rx day p (wI L []) ds ds)]):=by
  have hlk:=yC
  have hup:=AM
  let q5:= [iV day];let q8:=cV [];let q10:=some (aZ 1 false 0 [ak p]);let q11:=some (aZ 1 false 0 q5);exact QM Tryz.func39<|Kp 2 ha<|Kl 0 13 (ln ay L)<|Mg 0<|ML (Nat × List PAct × List (Int × PStart)) [0,1,4,12,13,14] (wU gs L day p) (Gg gs L day p) (fun a=>a.2.1.length) (0,L,[]) (aU<|wU gs L day p (0,L,[])) (et (rfl:List.drop 0 (L)=L) (by rfl:(wI L []=wI L []))) fun a b c=>let d:=some<|AObj.map (bF an a.2.2 0) a.2.2.length;Mi (fun a b=>wI L []=wI a b) ay b (fun _ b c=>Kh 0 b<|Kp 0 hi<|Kl 2 27 (ln az ds)<|Mg 0<|MM (Nat × List PDeed × Unit) (Nat × List PDeed × Nat × Nat × List PDeed) [1,4,7,26,27,28] (wY ds day p a) (Gc ds day p a) (Gf ds day p a) (Ge ds day p a) (fun a=>a.2.1.length) (fun a=>a.2.1.length) (.inl (0,ds,())) (aU<|wY ds day p a (0,ds,())) (et (rfl:List.drop 0 (ds)=ds) (by (exact ⟨rfl⟩):(OnA day p a.2.2 ds ds))) (fun b e f=>Mc b.2.1 (fun d=>have f:=gy e.1 d;have b:=jV (J:=fun b _=>OnA day p a.2.2 ds b) (a:=b.2.2) d e.2;Kh 0 f<|Mw .abs (by exact hE (by rw [show wI L []=a.2.2 from c];exact b.f):False)) fun c g h=>let i:=[av [iV c.act,iV c.item,iV c.day,iV c.it.kind,aW<|c.it.at_.map ax,aW<|c.it.to.map ax,iV c.it.where_,iV c.it.nth_,iV c.it.unit.act,iV c.it.unit.item,iV c.it.unit.n,iV c.it.unit.kind,ak c.it.unit.label,aW<|c.it.unit.head.map aQ,aW<|c.it.unit.words.map aQ,aW<|c.it.unit.kids.map aK,aW<|c.it.old.map mr,aW<|c.it.new.map mr,ak c.it.label,ak c.it.for_,iV c.it.start.kind,iV c.it.start.day,ak c.it.start.event,iV c.it.act,iV c.it.item,iV c.it.day,ak c.it.event,aW<|c.it.by_.map LL]];let j:=av [iV (cR a.2.2 c.act).kind,iV (cR a.2.2 c.act).day,ak (cR a.2.2 c.act).event];have k:=gc e.1 h;have :=au k;have l:=gv (enc:=az) e.1 h;have m:=cG (J:=fun b _=>OnA day p a.2.2 ds b) (a:=b.2.2) h e.2;Kt 0 k<|Mx l<|Kp 5 (mD c.it.kind)<|Mb (fw c.it.kind) (fun _=>Ms (Bk day p a.2.2 ds c) (fun d=>K1 4 (.look j) (hlk a.2.2 c.act)<|Kp 1 (me (cR a.2.2 c.act) c ds<|by (omega))<|M3 (.efx false q8<|aa [aZ 1 false 0 q5,aZ 1 false 0 [ak p],aZ 1 false 0 [aI 5 0 0 1 none],AObj.map (bF an a.2.2 0) a.2.2.length,aZ 28 false 0 i,aZ 28 true 0 i]) (xU rt (tM a.2.2.length 5<|aC (f:=an) (fun _=>rfl) a.2.2 0) rt rt rt ti) ti (Xf day p a.2.2 ds c d)<|Kl 0 46 (dt b.1)<|K1 0 (.ren [0,1,2,3,5,4] [3] [1,4,7,26,27,28]) (tN a.2.2.length<|aC (f:=an) (fun _=>rfl) a.2.2 0)<|M1 (.frz 5 [1,4,7,26,27,28]) (xU rt (tM a.2.2.length 5<|aC (f:=an) (fun _=>rfl) a.2.2 0) rt rt rt ti)<|Mf<|f (.inr (b.1+1,g,(0,1,[c]))) (et (bP e.1 h) (by exact m.new (UJ (e.1.trans h)) (by assumption) (by assumption) rfl:(OnR day p a.2.2 ds g (0:Nat) (1:Nat) [c])))<|fu h) fun k=>K1 4 (.look j) (hlk a.2.2 c.act)<|Kp 1 (me (cR a.2.2 c.act) c ds<|by (omega))<|M3 (.efx true q8<|aa [aZ 1 false 0 q5,aZ 1 false 0 [ak p],aZ 1 false 0 [ab],AObj.map (bF an a.2.2 0) a.2.2.length,aZ 28 false 0 i]) (xU rt (tM a.2.2.length 5<|aC (f:=an) (fun _=>rfl) a.2.2 0) rt rt rt ti) (xU (aU<|some<|aZ 28 false 0 i) (aU d) (aU<|some<|aZ 1 false 0 [ab]) (aU q10) (aU q11) ti) (Xg day p a.2.2 ds c k)<|Kl 0 46 (dt b.1)<|K1 0 (.frz 4 [1,4,7,26,27,28]) (GN (tM a.2.2.length 4<|aC (f:=an) (fun _=>rfl) a.2.2 0) rt rt rt ti)<|Mf<|f (.inl (b.1+1,g,())) (et (bP e.1 h) (by exact m.nil (by assumption):(OnA day p a.2.2 ds g)))<|fu h) fun _=>Kl 0 46 (dt b.1)<|K1 0 (.frz 4 [1,4,7,26,27,28]) (GN (tM a.2.2.length 4<|aC (f:=an) (fun _=>rfl) a.2.2 0) rt rt rt ti)<|Mf<|f (.inl (b.1+1,g,())) (et (bP e.1 h) (by exact m.no (by assumption):(OnA day p a.2.2 ds g)))<|fu h) fun b e f=>let g:=[aI 4 b.2.2.1 0 b.2.2.2.1 none];let h:=List.map az b.2.2.2.2;Mc b.2.1 (fun d=>have f:=gy e.1 d;have d:=jV (J:=fun b c=>OnR day p a.2.2 ds b c.1 c.2.1 c.2.2) (a:=b.2.2) d e.2;Kh 0 f<|M2 (.ren [0,1,2,4,3] [4,3] []) (tS 28 true b.2.2.1<|aX wW b.2.2.2.2) (tN a.2.2.length<|aC (f:=an) (fun _=>rfl) a.2.2 0)<|M1 (.frz 4 []) (GN (tR 28 true b.2.2.1 4<|aX wW b.2.2.2.2) rt rt rt ti)<|Mf<|et (aU q8) (by (have q:=d.done;rw [show wI L []=a.2.2 from c,q.1,q.2.1,q.2.2]):(aa [AObj.row 1 false 0 [iV day],AObj.row 1 false 0 [AV.str p],AObj.row 1 false 0 [AV.slice 3 b.2.2.1 0 b.2.2.2.1 none],AObj.row 28 true b.2.2.1 (b.2.2.2.2.map az)])=(aa [iy day,gw p,pY 3 ((rx day p (wI L []) ds ds).length - 1) (rx day p (wI L []) ds ds).length,pK ((rx day p (wI L []) ds ds).length - 1) (rx day p (wI L []) ds ds)]))) fun c i j=>let k:=[av [iV c.act,iV c.item,iV c.day,iV c.it.kind,aW<|c.it.at_.map ax,aW<|c.it.to.map ax,iV c.it.where_,iV c.it.nth_,iV c.it.unit.act,iV c.it.unit.item,iV c.it.unit.n,iV c.it.unit.kind,ak c.it.unit.label,aW<|c.it.unit.head.map aQ,aW<|c.it.unit.words.map aQ,aW<|c.it.unit.kids.map aK,aW<|c.it.old.map mr,aW<|c.it.new.map mr,ak c.it.label,ak c.it.for_,iV c.it.start.kind,iV c.it.start.day,ak c.it.start.event,iV c.it.act,iV c.it.item,iV c.it.day,ak c.it.event,aW<|c.it.by_.map LL]];let l:=av [iV (cR a.2.2 c.act).kind,iV (cR a.2.2 c.act).day,ak (cR a.2.2 c.act).event];have m:=gc e.1 j;have :=au m;have n:=gv (enc:=az) e.1 j;have o:=cG (J:=fun b c=>OnR day p a.2.2 ds b c.1 c.2.1 c.2.2) (a:=b.2.2) j e.2;Kt 0 m<|Mx n<|Kp 5 (mD c.it.kind)<|Mb (fw c.it.kind) (fun _=>Ms (Bk day p a.2.2 ds c) (fun d=>K1 4 (.look l) (hlk a.2.2 c.act)<|Kp 1 (me (cR a.2.2 c.act) c ds<|by (omega))<|M3 (.efx false q8<|aa [aZ 1 false 0 q5,aZ 1 false 0 [ak p],aZ 1 false 0 [aI 4 (b.2.2.1+1) 0 (b.2.2.2.1+1) none],AObj.map (bF an a.2.2 0) a.2.2.length,aZ 28 true (b.2.2.1+1)<|(b.2.2.2.2++ [c]).map az,aZ 28 false 0 k]) (LF rt (tR 28 true b.2.2.1 6<|aX wW b.2.2.2.2) (tM a.2.2.length 6<|aC (f:=an) (fun _=>rfl) a.2.2 0) rt rt rt ti) ti (Xd day p a.2.2 ds c b.2.2.1 b.2.2.2.1 b.2.2.2.2 d (by exact o.len)<|by (have z:=o.small;have z2:=o.len;simp only [lC] at z;omega))<|Kl 0 46 (dt b.1)<|K1 0 (.frz 5 [1,4,7,26,27,28]) (xU (tR 28 true (b.2.2.1+1) 5<|aX wW<|b.2.2.2.2++ [c]) (tM a.2.2.length 5<|aC (f:=an) (fun _=>rfl) a.2.2 0) rt rt rt ti)<|Mf<|f (.inr (b.1+1,i,(b.2.2.1+1,b.2.2.2.1+1,b.2.2.2.2++ [c]))) (et (bP e.1 j) (by exact o.new (by assumption) (by assumption) rfl:(OnR day p a.2.2 ds i (b.2.2.1+1) (b.2.2.2.1+1) (b.2.2.2.2++ [c]))))<|fu j) fun m=>K1 4 (.look l) (hlk a.2.2 c.act)<|Kp 1 (me (cR a.2.2 c.act) c ds<|by (omega))<|M3 (.efx true q8<|aa [aZ 1 false 0 q5,aZ 1 false 0 [ak p],aZ 1 false 0 g,AObj.map (bF an a.2.2 0) a.2.2.length,aZ 28 true b.2.2.1 h,aZ 28 false 0 k]) (LF rt (tR 28 true b.2.2.1 6<|aX wW b.2.2.2.2) (tM a.2.2.length 6<|aC (f:=an) (fun _=>rfl) a.2.2 0) rt rt rt ti) (LF (aU<|some<|aZ 28 false 0 k) (aU<|some<|aZ 28 true b.2.2.1 h) (aU d) (aU<|some<|aZ 1 false 0 g) (aU q10) (aU q11) ti) (Xe day p a.2.2 ds c b.2.2.1 b.2.2.2.1 b.2.2.2.2 m)<|Kl 0 46 (dt b.1)<|K1 0 (.frz 5 [1,4,7,26,27,28]) (xU (tR 28 true b.2.2.1 5<|aX wW b.2.2.2.2) (tM a.2.2.length 5<|aC (f:=an) (fun _=>rfl) a.2.2 0) rt rt rt ti)<|Mf<|f (.inr (b.1+1,i,(b.2.2.1,b.2.2.2.1,b.2.2.2.2))) (et (bP e.1 j) (by exact o.nil (by assumption):(OnR day p a.2.2 ds i b.2.2.1 b.2.2.2.1 b.2.2.2.2)))<|fu j) fun _=>Kl 0 46 (dt b.1)<|K1 0 (.frz 5 [1,4,7,26,27,28]) (xU (tR 28 true b.2.2.1 5<|aX wW b.2.2.2.2) (tM a.2.2.length 5<|aC (f:=an) (fun _=>rfl) a.2.2 0) rt rt rt ti)<|Mf<|f (.inr (b.1+1,i,(b.2.2.1,b.2.2.2.1,b.2.2.2.2))) (et (bP e.1 j) (by exact o.no (by assumption):(OnR day p a.2.2 ds i b.2.2.1 b.2.2.2.1 b.2.2.2.2)))<|fu j) fun d e f g _ h i=>Kt 0 g<|Mx h<|K1 7 (.upd (bF an (kz d.number d.start a.2.2) 0) (kz d.number d.start a.2.2).length) (hup a.2.2 d)<|Kl 0 23 (dt a.1)<|K1 0 (.frz 4 [0,1,4,12,13,14]) (GN (tM (kz d.number d.start a.2.2).length 4<|aC (f:=an) (fun _=>rfl) (kz d.number d.start a.2.2) 0) rt rt rt ti)<|Mf<|c (a.1+1,e,kz d.number d.start a.2.2) (et (bP b.1 f) (by exact i:(wI L []=wI e (kz d.number d.start a.2.2))))<|fu f
/-- What is in force on a day for a purpose. -/
noncomputable def XZ (day:Int) (p:aO) (L:List PAct) (ds:List PDeed):List PDeed:=rx day p (wI L []) ds ds
theorem WK (gs:List PGaz) (day:Int) (p:aO) (hc:kD 39 [.ls (gs.map aq), .func (.func 40) [] [.ptr 1 0 0 0, .ptr 0 0 0 0, .ptr 2 0 0 0]] (aa [iy day,gw p,pL]) (.tuple []) (aa [iy day,gw p,pL])):kP 20 [iV day, .str p, .ls (gs.map aq)] (.ls (([]:List PDeed).map az)):=by
  exact bp Tryz.func20<|Ke 5 hc<|Kf 1 bu
theorem WJ (gs:List PGaz) (day:Int) (p:aO) (X:List PDeed) (k:Nat) (hz:0<X.length) (hb:X.length<2 ^ 40) (hc:kD 39 [.ls (gs.map aq), .func (.func 40) [] [.ptr 1 0 0 0, .ptr 0 0 0 0, .ptr 2 0 0 0]] (aa [iy day,gw p,pL]) (.tuple []) (aa [iy day,gw p,pY 3 k X.length,pK k X])):kP 20 [iV day, .str p, .ls (gs.map aq)] (.ls (X.map az)):=by
  let q:=List.map az X;exact bp Tryz.func20<|Ke 5 hc<|Mg 1<|M2 (.fsl 0 [] 6 q) ti (cW (aU k) (tA az X X.length rfl)<|aX wW X)<|Ml 6 (eH q false<|aX wW X)<|Mf<|bv<|aW q
theorem WV (gs:List PGaz) (L:List PAct) (ds:List PDeed) (day:Int) (p:aO) (hL:L.length<10000) (hd:ds.length<100000) (ha:kP 63 [.ls (gs.map aq)] (.ls (L.map ay))) (hi:kP 64 [.ls (gs.map aq)] (.ls (ds.map az))):kP 20 [iV day, .str p, .ls (gs.map aq)] (.ls ((XZ day p L ds).map az)):=by
  by_cases hE:XZ day p L ds = []
  · rw [hE];exact WK gs day p (Vz gs L ds day p hL hd ha hi hE)
  · have hl:(XZ day p L ds).length≤ds.length:=List.length_filter_le ..
    exact WJ gs day p _ _ (pc.2 hE) (by omega) (Vq gs L ds day p hL hd ha hi hE)
/-- The book with nothing in it. -/
def uS:TUnit:=⟨0,0,0,0, [], [], [], []⟩
theorem PD:OkB uS:=⟨by decide,by decide,fun x hx=>by
  have e:x=uS:=by simpa [uS,bc,dx] using hx
  subst e;exact ⟨bN _,bN _⟩⟩
theorem Vf (X:List PDeed) (hl:X.length<2 ^ 30) (ho : ∀ d,d∈X→wS d.it):kP 55 [zU, .ls (X.map az)] (.tuple [eU (dJ uS X), .ls ((eT uS X).map iZ)]):=
  (Qh uS X PD hl ho).args (.cons (qP _ _ (by kernel_rfl)).1 (.cons (Le.refl _) .nil))
theorem P0 (X:List PDeed) (hl:X.length<2 ^ 30) (ho : ∀ d,d∈X→wS d.it):kP 34 [.ls (X.map az)] (.tuple [eU (dJ uS X), .ls ((eT uS X).map iZ)]):=by
  have h:=Vf X hl ho
  exact bp Tryz.func34<|Kp 3 h<|Kf 3<|bv<|cV [av [iV (dJ uS X).act,iV (dJ uS X).item,iV (dJ uS X).n,iV (dJ uS X).kind,ak (dJ uS X).label,aW<|List.map aQ (dJ uS X).head,aW<|List.map aQ (dJ uS X).words,aW<|List.map aK (dJ uS X).kids],aW<|(eT uS X).map iZ]
theorem TQ (gs:List PGaz) (day:Int) (p:aO) (X:List PDeed) (hon:kP 20 [iV day, .str p, .ls (gs.map aq)] (.ls (X.map az))):kP 33 [iV day, .str p, .ls (gs.map aq)] (.ls (X.map az)):=by
  exact bp Tryz.func33<|Kp 3 hon<|Kf 0<|bv<|aW<|X.map az
theorem QY (gs:List PGaz) (day:Int) (p:aO) (X:List PDeed) (hl:X.length<2 ^ 30) (ho : ∀ d,d∈X→wS d.it) (hon:kP 20 [iV day, .str p, .ls (gs.map aq)] (.ls (X.map az))):kP 12 [iV day, .str p, .ls (gs.map aq)] (eU (dJ uS X)):=by
  have h1:=TQ gs day p X hon
  have h2:=P0 X hl ho
  exact bp Tryz.func12<|Kp 3 h1<|Mp h2<|Kf 7<|bv<|av [iV (dJ uS X).act,iV (dJ uS X).item,iV (dJ uS X).n,iV (dJ uS X).kind,ak (dJ uS X).label,aW<|List.map aQ (dJ uS X).head,aW<|List.map aQ (dJ uS X).words,aW<|List.map aK (dJ uS X).kids]
theorem NC (l m:List PWord) (hl:l.length<2 ^ 60) (hm:m.length<2 ^ 60):kP 32 [.ls (l.map aQ), .ls (m.map aQ)] (.bool (b6 AZ l m)):=by
  have rr0 b' (h:(b6 AZ l m)=b':=by first | exact mp eG hj0 | exact kM eG | (rw [iQ zD0 hr0 eG hj0];simp only [AZ,aS,aj,bS, *];first | done | rfl)):=h;exact bp Tryz.func32<|Kl 2 7 (ln aQ l)<|Kl 1 9 (ln aQ m)<|Kc 0 (Int.ofNat l.length) (Int.ofNat m.length) (fun _ _=>Ky 0<|rr0 false) fun _ _=>Mg 0<|uW aQ l [0,1,5] (fun a _=>([aW<|l.map aQ,aW<|m.map aQ,nV a],[])) (fun a=>b6 AZ l m=b6 AZ a (m.drop<|l.length - a.length)) (by (exact zk)) (fun _ _ zD0 _ hr0 a hj0=>Kl 2 13 (ln aQ l)<|Kh 0 a<|Ky 0<|rr0 true) fun a _ zD0 _ b c d hr0 e _ f hj0=>Kl 2 13 (ln aQ l)<|Kt 0 e<|Kx 1 f<|Kx 2 (aT aQ (by (simp only [oN,lM,lS] at *;omega):a<(m).length))<|Kv 0 (xy (d:=(Tryz.prog).underlying 90) (n:=4) (l:=(0,2)::(1,1)::(2,1)::(3,1):: []) (xs:=[ak b.text,iV b.act,iV b.item,iV b.at_]) (ys:=[ak (gD m a).text,iV (gD m a).act,iV (gD m a).item,iV (gD m a).at_]) (H:=AHeap.mk 1000000 Tr.nil) rfl<|ml (e:=dH b.text (gD m a).text) rfl rfl rfl<|ml (e:=ae b.act (gD m a).act) rfl rfl rfl<|ml (e:=ae b.item (gD m a).item) rfl rfl rfl<|zj (e:=ae b.at_ (gD m a).at_) rfl rfl rfl rfl)<|Mn (dH b.text (gD m a).text && (ae b.act (gD m a).act && (ae b.item (gD m a).item && ae b.at_ (gD m a).at_))) (fun _=>Kf 0<|cq<|rr0 false) fun _=>Kl 1 16 (dt a)<|Kf 0<|d<|by (rw [iQ zD0 hr0 (by (simp only [oN] at *;omega)) hj0];simp only [AZ,aS,aj,bS, *];first | done | rfl)
theorem UW : ∀ (u:TUnit),oC u→∀ v,oC v→kP 11 [eU u,eU v] (.bool (AX u v)):=by
  refine TUnit.ind fun u ih hu v hv=>?_
  obtain ⟨u1,u2,u3,u4⟩:=kI.1 hu
  obtain ⟨v1,v2,v3,v4⟩:=kI.1 hv
  have hh:=NC u.head v.head u1 v1
  have hw:=NC u.words v.words u2 v2
  have hk : ∀ a,a∈u.kids→∀ b,b∈v.kids→kP 11 [eU a,eU b] (.bool (AX a b)):=fun a ha b hb=>ih a ha (u4 a ha) b (v4 b hb)
  have rr0 b' (h:(AX u v)=b':=by (rw [H6];first | (rw [mp (by (simp only [oN] at *;omega)) hj0];simp only [bw,bV,bZ,aS,aj,bS, *];done) | (rw [show b6 AX u.kids v.kids=false from kM (by (simp only [oN] at *;omega))];simp only [bw,bV,bZ,aS,aj,bS, *];done) | (rw [iQ zD0 hr0 (by (simp only [oN] at *;omega)) hj0];simp only [bw,bV,bZ,aS,aj,bS, *];done) | (simp only [bw,bV,bZ,aS,aj,bS, *];first | done | rfl))):=h;exact bp Tryz.func11<|Kv 6 (CH ((Tryz.prog).underlying 27) u.act u.item u.n v.act v.item v.n<|aa [aZ 8 false 0 [av [iV u.act,iV u.item,iV u.n,iV u.kind,ak u.label,aW<|u.head.map aQ,aW<|u.words.map aQ,aW<|u.kids.map aK]],aZ 8 false 0 [av [iV v.act,iV v.item,iV v.n,iV v.kind,ak v.label,aW<|v.head.map aQ,aW<|v.words.map aQ,aW<|v.kids.map aK]]])<|Kn 0 (ae u.act v.act && (ae u.item v.item && ae u.n v.n)) (fun c=>Mt (b7 c)<|Mt (b7 c)<|Mt (b7 c)<|Mt (b7 c)<|MV (b7 c)<|Ky 9<|rr0 false) fun c=>Kh 0 (bL c)<|Kh 0 (bL c)<|Kh 0 (bL c)<|Kh 0 (bL c)<|Kw 0 (bL c)<|Kc 0 u.kind v.kind (fun c _=>Mt (b7 c)<|Mt (b7 c)<|Mt (b7 c)<|Mt (b7 c)<|MV (b7 c)<|Ky 7<|rr0 false) fun c _=>Kh 0 (bL c)<|Kh 0 (bL c)<|Kh 0 (bL c)<|Kh 0 (bL c)<|Kw 0 (bL c)<|Kn 0 (dH u.label v.label) (fun c=>Mt (b7 c)<|Mt (b7 c)<|Mt (b7 c)<|Mt (b7 c)<|Mt (b7 c)<|MV (b7 c)<|Ky 5<|rr0 false) fun c=>Kh 0 (bL c)<|Kh 0 (bL c)<|Kh 0 (bL c)<|Kh 0 (bL c)<|Mp hh<|Mh (bL c)<|Kw 0 (bL c)<|Kn 0 (b6 AZ u.head v.head) (fun c=>Mt (b7 c)<|Mt (b7 c)<|Mt (b7 c)<|Mt (b7 c)<|Mt (b7 c)<|MV (b7 c)<|Ky 3<|rr0 false) fun c=>Kh 0 (bL c)<|Kh 0 (bL c)<|Kh 0 (bL c)<|Kh 0 (bL c)<|Mp hw<|Mh (bL c)<|Kw 0 (bL c)<|Kn 0 (b6 AZ u.words v.words) (fun c=>Mt (b7 c)<|Mt (b7 c)<|Mt (b7 c)<|Mt (b7 c)<|Mt (b7 c)<|Mt (b7 c)<|MV (b7 c)<|Ky 1<|rr0 false) fun c=>Kh 0 (bL c)<|Kh 0 (bL c)<|Kl 0 44 (ln aK u.kids)<|Mh (bL c)<|Kh 0 (bL c)<|Kh 0 (bL c)<|Kl 0 47 (ln aK v.kids)<|Mh (bL c)<|Kw 0 (bL c)<|Mn (ae (Int.ofNat u.kids.length)<|Int.ofNat v.kids.length) (fun c=>have :=F3 c;Ky 0<|rr0 false) fun c=>have :=je c;Mg 0<|uW aK u.kids [2,3,5] (fun c _=>([bJ 0 0 0 0,bJ 1 0 0 0,nV c],[aZ 8 false 0 [av [iV u.act,iV u.item,iV u.n,iV u.kind,ak u.label,aW<|u.head.map aQ,aW<|u.words.map aQ,aW<|u.kids.map aK]],aZ 8 false 0 [av [iV v.act,iV v.item,iV v.n,iV v.kind,ak v.label,aW<|v.head.map aQ,aW<|v.words.map aQ,aW<|v.kids.map aK]]])) (fun c=>b6 AX u.kids v.kids=b6 AX c (v.kids.drop<|u.kids.length - c.length)) (by (exact zk)) (fun _ _ zD0 _ hr0 c hj0=>Kl 3 53 (ln aK u.kids)<|Kh 0 c<|Ky 0<|rr0 true) fun c _ zD0 _ d e f hr0 g _ i hj0=>have i:=i.trans<|congrArg some<|aG d;Kl 3 53 (ln aK u.kids)<|Kt 0 g<|Kx 2 i<|Kx 3 ((aT aK (by (simp only [oN,lM,lS] at *;omega):c<(v.kids).length)).trans<|congrArg some<|aG _)<|Kp 0 (hk d (by exact aN zD0 hr0) (gD v.kids c)<|by exact iY (by (simp only [oN] at *;omega)))<|Kn 0 (AX d<|gD v.kids c) (fun _=>Kf 0<|cq<|rr0 false) fun _=>Kl 1 56 (dt c)<|Kf 0<|f<|by (rw [iQ zD0 hr0 (by (simp only [oN] at *;omega)) hj0];simp only [aS,aj,bS, *];first | done | rfl)
theorem x8 (u:TUnit) (h:OkB u):kP 11 [eU u,eU u] (.bool true):=by
  have z:=UW u (EG h) u (EG h)
  rwa [(SH u u).2 rfl] at z
/-- What the bound on gazettes tells. -/
structure OkG (gs:List PGaz):Prop where
  fit:pQ gs
  len:gs.length≤9
  acts : ∀ g,g∈gs→g.acts.length≤8
  items : ∀ g,g∈gs→∀ a,a∈g.acts→a.items.length≤24∧∀ x,x∈a.items→mh x=true
theorem FO {most:Int} : ∀ (l:List PAct) (n m:Int),most=24→0≤n→ld most l n=some m→0≤m∧∀ a,a∈l→a.items.length≤24∧∀ x,x∈a.items→mh x=true
  | [],n,m,_,hn,h=>by simp only [ld,wv] at h;exact ⟨h ▸ hn,fun a ha=>by cases ha⟩
  | b::r,n,m,hm,hn,h=>by
    unfold ld at h
    cases hb:zP most n b with
    | true=>rw [hb] at h;cases h
    | false=>
      rw [hb] at h
      unfold zP at hb
      simp only [Au] at hb
      obtain ⟨z1,_,_,z2⟩:=hb
      have z1:=aF z1
      obtain ⟨q1,q2⟩:=FO r (n+Int.ofNat b.items.length) m hm (by simp only [oN] at *;omega) h
      refine ⟨q1,fun a ha=>?_⟩
      rcases fz.1 ha with rfl | ha
      · refine ⟨by simp only [oN] at *;omega,fun x hx=>?_⟩
        have z3:=pI z2
        exact na.1 z3 x hx
      · exact q2 a ha
theorem JH : ∀ (l:List PGaz) (n:Int),0≤n→tq 24 l n=true→∀ g,g∈l→g.acts.length≤8∧∀ a,a∈g.acts→a.items.length≤24∧∀ x,x∈a.items→mh x=true
  | [],_,_,_,g,hg=>by cases hg
  | x::r,n,hn,h,g,hg=>by
    unfold tq at h
    cases hb:uN x with
    | true=>rw [hb] at h;cases h
    | false=>
      rw [hb] at h
      cases ha:ld 24 x.acts n with
      | none=>rw [ha] at h;cases h
      | some m=>
        rw [ha] at h
        obtain ⟨q1,q2⟩:=FO x.acts n m rfl hn ha
        rcases fz.1 hg with rfl | hg
        · unfold uN at hb
          have:=aF (Au.1 hb).1
          exact ⟨by simp only [oN] at *;omega,q2⟩
        · exact JH r m q1 h g hg
theorem Ua {gs:List PGaz} {p:aO} (hf:pQ gs) (h:LA gs p=true):OkG gs∧gs.length≤8:=by
  unfold LA at h
  have h1:=(pv.1 h).1
  unfold LB at h1
  cases hb:ar 8 (Int.ofNat gs.length) with
  | true=>rw [hb] at h1;cases h1
  | false=>
    rw [hb] at h1
    have:=aF hb
    have hl:gs.length≤8:=by simp only [oN] at *;omega
    have q:=JH gs 0 (by omega) h1
    exact ⟨⟨hf,by omega,fun g hg=>(q g hg).1,fun g hg=>(q g hg).2⟩,hl⟩
theorem OkG.sub {gs hs:List PGaz} (h:OkG gs) (hl:hs.length≤9) (hm : ∀ g,g∈hs→g∈gs):OkG hs:=
  ⟨⟨by omega,fun g hg=>h.fit.2 g (hm g hg)⟩,hl,fun g hg=>h.acts g (hm g hg),fun g hg=>h.items g (hm g hg)⟩
theorem OkG.more {gs:List PGaz} (h:OkG gs) (hl:gs.length≤8) {g:PGaz} (hg:g.acts = []):OkG (gs++ [g]):=by
  refine ⟨⟨by rw [lA];simp only [lC,lN];omega,fun x hx=>?_⟩,by rw [lA];simp only [lC,lN];omega,fun x hx=>?_,fun x hx=>?_⟩
  all_goals rcases iE.1 hx with q | q
  all_goals first | (rw [mQ] at q;subst q) | skip
  · exact h.fit.2 x q
  · exact ⟨by rw [hg];decide,fun a ha=>by rw [hg] at ha;cases ha⟩
  · exact h.acts x q
  · rw [hg];decide
  · exact h.items x q
  · intro a ha;rw [hg] at ha;cases ha
theorem A4 : ∀ (ys out:List PAct),(ys.foldl ju out).length≤out.length+ys.length
  | [],out=>al _
  | a::r,out=>by
    have:=A4 r (ju out a);have:=(Nv out a).2
    simp only [lf,lC];omega
theorem zJ : ∀ (gs:List PGaz),(∀ g,g∈gs→g.acts.length≤8)→∀ out,(aR gs out).length≤out.length+8 * gs.length
  | [],_,out=>al _
  | g::r,hb,out=>by
    have:=zJ r (fun x hx=>hb x (fY _ hx)) (g.acts.foldl ju out)
    have:=A4 g.acts out
    have:=hb g (fp ..)
    simp only [aR,lf,lC] at *
    omega
theorem Nw {out:List PAct} {a b:PAct} (h:b∈ju out a):b∈out∨b=a:=by
  unfold ju at h
  split at h
  · exact .inl h
  · rcases iE.1 h with h | h
    · exact .inl h
    · exact .inr (mQ.1 h)
theorem AR : ∀ (ys out:List PAct) (b:PAct),b∈ys.foldl ju out→b∈out∨b∈ys
  | [],out,b,h=> .inl h
  | a::r,out,b,h=>by
    rcases AR r (ju out a) b h with h | h
    · rcases Nw h with h | rfl
      · exact .inl h
      · exact .inr (fp ..)
    · exact .inr (fY _ h)
theorem zW : ∀ (gs:List PGaz) (out:List PAct) (b:PAct),b∈aR gs out→b∈out∨∃ g,g∈gs∧b∈g.acts
  | [],out,b,h=> .inl h
  | g::r,out,b,h=>by
    rcases zW r (g.acts.foldl ju out) b h with h | ⟨g2,q1,q2⟩
    · rcases AR g.acts out b h with h | h
      · exact .inl h
      · exact .inr ⟨g,fp ..,h⟩
    · exact .inr ⟨g2,fY _ q1,q2⟩
theorem uQ : ∀ (l:List PAct),(∀ a,a∈l→a.items.length≤24)→(mF l).length≤24 * l.length
  | [],_=>al _
  | a::r,h=>by
    have:=uQ r fun b hb=>h b (fY _ hb)
    have:=h a (fp ..)
    simp only [mF,List.flatMap_cons,lA,kR,lC] at *
    omega
theorem OkG.act {gs:List PGaz} (h:OkG gs) {a:PAct} (ha:a∈f8 gs):a.items.length≤24∧(∀ x,x∈a.items→mh x=true)∧Pe a:=by
  have ha:=(oP gs).mem_iff.1 ha
  rcases zW gs [] a ha with q | ⟨g,h1,h2⟩
  · cases q
  · exact ⟨(h.items g h1 a h2).1,(h.items g h1 a h2).2,(h.fit.2 g h1).2 a h2⟩
/-- The items as they stand. -/
noncomputable def qU (gs:List PGaz):List PDeed:=bD (ao (f8 gs) []) (f8 gs)
theorem OkG.lens {gs:List PGaz} (h:OkG gs):(f8 gs).length≤72∧(qU gs).length≤1728:=by
  have h1:=zJ gs h.acts []
  have h2:=(oP gs).length_eq
  have h3:=uQ (f8 gs) fun a ha=>(h.act ha).1
  have h4:=h.len
  have h5:(qU gs).length=(mF (f8 gs)).length:=bH ..
  simp only [lN] at h1
  omega
theorem OkG.all {gs:List PGaz} (h:OkG gs):kP 63 [.ls (gs.map aq)] (.ls ((f8 gs).map ay))∧kP 64 [.ls (gs.map aq)] (.ls ((qU gs).map az)):=by
  have h1:=h.lens
  have h2:=(oP gs).length_eq
  have h3:(qU gs).length=(mF (f8 gs)).length:=bH ..
  have h4:=h.len
  exact ⟨KW gs h.fit (fun g hg=>o4 (h.acts g hg) (by decide)) (by omega) (by omega),OH gs h.fit (fun g hg=>o4 (h.acts g hg) (by decide)) (by omega) (by omega) (fun a ha=>o4 (h.act ha).1 (by decide)) (by omega)⟩
theorem Vb {x y:PItem} (h:mh x=true) (hy:y∈x.by_):mh y=true:=by
  rw [DQ] at h
  simp only [bK] at h
  have:=na.1 h.2.2.2.2.2 y hy
  unfold Gi at this
  exact (pv.1 this).2
theorem Va {x y:PItem} (h:mI x) (hy:y∈x.by_):mI y:=(qZ.1 h).2.2.2.2.2.2 y hy
theorem Ed {K V:Type} {keq:K→K→Bool} {k:K} {v:V} : ∀ {l:List (K × V)} {e:K × V},e∈fV keq k v l→e∈l∨e.2=v
  | [],e,h=>by
    rw [fV,mQ] at h;exact .inr (by rw [h])
  | (j,u)::r,e,h=>by
    rw [fV] at h
    cases q:keq k j with
    | true=>
      rw [q] at h
      rcases fz.1 h with h | h
      · exact .inr (by rw [h])
      · exact .inl (fY _ h)
    | false=>
      rw [q] at h
      rcases fz.1 h with h | h
      · exact .inl (by rw [h];exact fp ..)
      · rcases Ed (l:=r) h with h | h
        · exact .inl (fY _ h)
        · exact .inr h
theorem Fl {K V:Type} {keq:K→K→Bool} {k:K} {v:V} : ∀ {l:List (K × V)},nj keq k l=some v→∃ e,e∈l∧e.2=v
  | [],h=>by cases h
  | (j,u)::r,h=>by
    rw [nj] at h
    cases q:keq k j with
    | true=>rw [q] at h;exact ⟨(j,u),fp ..,Ii h⟩
    | false=>
      rw [q] at h
      obtain ⟨e,h1,h2⟩:=Fl (l:=r) h
      exact ⟨e,fY _ h1,h2⟩
theorem LP {m:List ((Int × Int) × PItem)} {x:PItem} (hm : ∀ e,e∈m→wS e.2) (h1:mh x=true) (h2:mI x) : ∀ e,e∈jq m x→wS e.2:=by
  unfold jq
  split
  · rename_i h
    simp only [bK] at h
    have hl:=au h.1.2
    have hy:gD x.by_ 0∈x.by_:=iY (by simp only [oN] at hl;omega)
    intro e he
    rcases Ed he with q | q
    · exact hm e q
    · rw [q];exact Oz (Va h2 hy) (Vb h1 hy)
  · exact hm
theorem B0 : ∀ (xs:List PItem) (m:List ((Int × Int) × PItem)),(∀ e,e∈m→wS e.2)→(∀ x,x∈xs→mh x=true∧mI x)→∀ e,e∈xs.foldl jq m→wS e.2
  | [],_,hm,_=>hm
  | x::r,m,hm,h=>B0 r (jq m x) (LP hm (h x (fp ..)).1 (h x (fp ..)).2) fun y hy=>h y (fY _ hy)
theorem BT : ∀ (l:List PAct) (m:List ((Int × Int) × PItem)),(∀ e,e∈m→wS e.2)→(∀ a,a∈l→∀ x,x∈a.items→mh x=true∧mI x)→∀ e,e∈ao l m→wS e.2
  | [],_,hm,_=>hm
  | a::r,m,hm,h=>BT r (a.items.foldl jq m) (B0 a.items m hm (h a (fp ..))) fun b hb=>h b (fY _ hb)
theorem zf (a:PAct) : ∀ (l:List PItem) (i:Nat) (d:PDeed),d∈b9 a l i→d.it∈l
  | [],_,d,h=>by cases h
  | x::r,i,d,h=>by
    rcases fz.1 h with rfl | h
    · exact fp ..
    · exact fY _ (zf a r _ d h)
theorem OkG.deed {gs:List PGaz} (h:OkG gs) {d:PDeed} (hd:d∈qU gs):wS d.it:=by
  have hi : ∀ a,a∈f8 gs→∀ x,x∈a.items→mh x=true∧mI x:=fun a ha x hx=>⟨(h.act ha).2.1 x hx,(h.act ha).2.2.2 x hx⟩
  obtain ⟨o,ho,rfl⟩:=j8.1 hd
  obtain ⟨a,ha,hoa⟩:=List.mem_flatMap.1 ho
  have h1:=hi a ha _ (zf a _ _ _ hoa)
  have h2:wS o.it:=Oz h1.2 h1.1
  unfold mH
  split
  · rename_i hc
    have hc:=(pv.1 hc).1
    unfold pS at hc
    show wS (G2 (ao (f8 gs) []) o)
    unfold G2
    cases q:nj oE (o.act,o.item) (ao (f8 gs) []) with
    | none=>rw [q] at hc;cases hc
    | some v=>
      obtain ⟨e,e1,e2⟩:=Fl q
      have:=BT (f8 gs) [] (fun e he=>by cases he) hi e e1
      rw [e2] at this
      exact this
  · exact h2
/-- What is in force. -/
noncomputable def uP (day:Int) (p:aO) (gs:List PGaz):List PDeed:=XZ day p (f8 gs) (qU gs)
noncomputable def CJ (day:Int) (p:aO) (gs:List PGaz):TUnit:=dJ uS (uP day p gs)
theorem OkG.force {gs:List PGaz} (h:OkG gs) (day:Int) (p:aO):(uP day p gs).length<2 ^ 30∧(∀ d,d∈uP day p gs→wS d.it)∧kP 20 [iV day, .str p, .ls (gs.map aq)] (.ls ((uP day p gs).map az)):=by
  have hl:=h.lens
  have h1:(uP day p gs).length≤(qU gs).length:=List.length_filter_le ..
  exact ⟨by omega,fun d hd=>h.deed (List.mem_filter.1 hd).1,WV gs _ _ day p (by omega) (by omega) h.all.1 h.all.2⟩
theorem OkG.book {gs:List PGaz} (h:OkG gs) (day:Int) (p:aO):kP 12 [iV day, .str p, .ls (gs.map aq)] (eU (CJ day p gs)):=
  QY gs day p _ (h.force day p).1 (h.force day p).2.1 (h.force day p).2.2
theorem OkG.okB {gs:List PGaz} (h:OkG gs) (day:Int) (p:aO):OkB (CJ day p gs):=Gn PD (h.force day p).2.1
theorem FF (gs:List PGaz) {g:PGaz} (hg:g.acts = []):aR (gs++ [g]) []=aR gs []:=by
  simp only [aR,List.foldl_append,lf,List.foldl_nil,hg]
theorem L6 (day:Int) (p:aO) (gs:List PGaz) {g:PGaz} (hg:g.acts = []):CJ day p (gs++ [g])=CJ day p gs:=by
  have h:f8 (gs++ [g])=f8 gs:=by unfold f8;rw [FF gs hg]
  unfold CJ uP qU
  rw [h]
end Go.Proofs.YtempcdhknnjebaaGreatDoor
