/- Functions walked: what each of them answers, for the law of acts that conflict: part 1. Conditions: those that each theorem names. -/
import Derived.Test.YtefibmgdgameaaaGreatDoorEva
import Derived.Test.YtefibmgdgameaaaGreatDoorLay
import Derived.Test.YtefibmgdgameaaaGreatDoorLay2
namespace Go.Proofs.YtefibmgdgameaaaGreatDoor
open Go Go.Ev
noncomputable abbrev aw:=@AObj.row
noncomputable abbrev dt:=@AV.slice
noncomputable abbrev eQ:=@ARes.val
noncomputable abbrev ab:=@AV.agg
noncomputable abbrev af:=@AV.str
noncomputable abbrev aR:=@AV.nils
noncomputable abbrev fQ:=@AV.tuple
noncomputable abbrev eL:=@AV.ps
noncomputable abbrev ib:=@Le.ps
noncomputable abbrev aU:=@AV.ls
noncomputable abbrev aW:=@Le.refl
noncomputable abbrev aq:=@Le.bool
noncomputable abbrev aj:=@Le.int
noncomputable abbrev bg:=@AV.func
noncomputable abbrev bf:=@Fn.func
noncomputable abbrev dW:=@AV.bool
noncomputable abbrev cR:=@Le.tuple
noncomputable abbrev iY:=@Le.of_eq
noncomputable abbrev b9:=@Le.nils
noncomputable abbrev zU:AV:= .agg [iV 0,iV 0,iV 0,iV 0, .str [], .nils, .nils, .nils]
noncomputable abbrev dn (xs:List AV):AObj:= .row 8 false 0 xs
theorem Tm {L Z:List AV} {n i:Nat} (hn:L.length=n) (hi:i<n):((L++Z).drop (i+1)).take (n - (i+1))=L.drop (i+1):=by
  rw [List.drop_append_of_le_length (by omega),AF (by rw [jW];omega),re (by rw [jW];omega)]
theorem Tn {L Z:List AV} {n i:Nat} (hn:L.length=n) (hi:i<n):bR (L++Z) (0+i) (L.drop (i+1))=L.eraseIdx i++(L.drop (n - 1)++Z):=by
  unfold bR
  rw [gK,AF (by omega),AG,jW,show i+(L.length - (i+1))=n - 1 by omega,List.drop_append_of_le_length (by omega)]
theorem Dk {L Z:List AV} {z:AV} {n i:Nat} (hn:L.length=n) (hi:i<n):bR (L.eraseIdx i++(L.drop (n - 1)++Z)) (n - 1) (List.replicate 1 z)=L.eraseIdx i++(z::Z):=by
  unfold bR
  have h1:(L.eraseIdx i).length=n - 1:=by rw [List.length_eraseIdx];simp [hn,hi]
  have h2:(L.drop (n - 1)).length=1:=by rw [jW];omega
  rw [AF (by omega),re (by omega)]
  have h3:(L.eraseIdx i++(L.drop (n - 1)++Z)).drop (n - 1+(List.replicate 1 z).length)=Z:=by
    rw [lR,← oM,List.drop_append_of_le_length (by rw [lA];omega),AH (by rw [lA];omega)];rfl
  rw [h3,DG,List.replicate_zero,oM];rfl
theorem WM {a b:Nat} (h:a≠b):az (Int.ofNat a) (Int.ofNat b)=false:=by
  rw [pI];exact decide_eq_false fun e=>h (Int.ofNat.inj e)
theorem QD (L Z:List AV) (n k i:Nat) (hi:i+1<n) (hn:L.length=n) (hs:n≤2 ^ 20) (hf:dh 8 L=true) (hZ:Z.length=k) (hT:aY (L++Z)=0):kD 240 [.slice 0 0 0 n (some (n+k)),nV i,nV (i+1)] (ae [dn (L++Z)]) (.slice 0 0 0 (n - 1) (some (n+k))) (ae [dn (L.eraseIdx i++(zU::Z))]):=by
  have hq:az (Int.ofNat i) (Int.ofNat (i+1))=false:=WM (by omega)
  let q:=AHeap.mk 1000000 (bM (ae [aw 8 false 0 (L++Z)]) ([0]) Tr.nil);let q1:=ae [aw 8 false 0 (L.eraseIdx i++(L.drop (n - 1)++Z))];let q2:=ae [aw 8 false 0 (L++Z)];let q3:=(some (dt 0 0 0 n (some (n+k))));let q4:=dt 0 0 (i+1) (n - (i+1)) (some (n+k - (i+1)));let q5:=(some (nV (i+1)));let q6:=(some (nV i));let q7:=(some (nV n));let q8:=AHeap.mk 1 (bM q2 ([0,0]) Tr.nil);let q9:=dt 0 0 0 (n - 1) (some (n+k));let q10:=dt 0 0 (n - 1) 1 (some (k+1));let q11:=dt 0 0 0 i (some (n+k));exact gI Tryz.func240 (fun qq=>Mg 5 (Mo (by exact Ce (xs:=L++Z) (l:=i) (h:=i+1) (m:=n) (by kernel_rfl) (by rfl) (by rfl) (by rfl) (by omega) (by omega) (by omega) (by omega) (by omega) (by omega) (by omega):bo q2 (dC (8) q2 q3 q6 q5 q7)=some (eQ (dt 0 0 i 1 (some (n - i))) q2)) (Mg 2 (Mh hq (Mg 4 (Mv (by exact iQ (xs:=L++Z) (l:=0) (h:=i) (by kernel_rfl) (by rfl) (by rfl) (by omega) (by omega) (by omega) (by omega) (by omega) (by omega):bo (q) (dC (8) (q) q3 (none) q6 (none))=some (eQ q11 q)) (Mg 1 (Mv (by exact iQ (xs:=L++Z) (l:=i+1) (h:=n) (by kernel_rfl) (by rfl) (by rfl) (by omega) (by omega) (by omega) (by omega) (by omega) (by omega):bo (q) (dC (8) (q) q3 q5 (none) (none))=some (eQ q4 q)) (Md rt (kJ (bZ (sz:=8) (op:=false) (ep:=0) (n:=1) (by assumption:aY (L++Z)=0)) (kJ (bZ (sz:=8) (op:=false) (ep:=0) (n:=1) (by assumption:aY (L++Z)=0)) rt)) (by exact KR (new:=L.drop (i+1)) rfl (xg rfl (Tm hn (by omega))) (pH hf) (fun e=>by have:=congrArg List.length e;rw [jW,lN] at this;omega) (by rw [jW];omega) (by rw [jW,lA];omega) (aA (m:=2 ^ 20) (by rw [jW];omega) (by decide) (by decide)) (by rw [jW];omega) (Tn hn (by omega)):fj (dw (8) (120) (q8) ((some q11)) ((some q4)))=some (eQ q9 (AHeap.put q8 0 (aw 8 false 0 (L.eraseIdx i++(L.drop (n - 1)++Z)))))) (Mg 4 (Mo (by exact iQ (xs:=L.eraseIdx i++(L.drop (n - 1)++Z)) (l:=n - 1) (h:=n) (by kernel_rfl) (by rfl) (by rfl) (by omega) (by omega) (by omega) (by omega) (by omega) (by omega):bo q1 (dC (8) q1 ((some q9)) ((some (nV (n - 1)))) q7 (none))=some (eQ q10 q1)) (Mo (by exact IC rfl (by kernel_rfl) (Dk hn (by omega)):fj (ud (8) (ab [iV 0,iV 0,iV 0,iV 0,af [],aR,aR,aR]) q1 ((some q10)))=some (eQ (fQ []) (ae [aw 8 false 0 (L.eraseIdx i++zU::Z)]))) (Mg 1 (Mf qq))))))))))))))
theorem QC (L Z:List AV) (k i:Nat) (hn:L.length=i+1) (hs:i<2 ^ 20) (hk:0<k) (hZ:Z.length=k) (hT:aY (L++Z)=0):kD 240 [.slice 0 0 0 (i+1) (some (i+1+k)),nV i,nV (i+1)] (ae [dn (L++Z)]) (.slice 0 0 0 i (some (i+1+k))) (ae [dn (L.eraseIdx i++(zU::Z))]):=by
  have hq:az (Int.ofNat i) (Int.ofNat (i+1))=false:=WM (by omega)
  have hr:L.eraseIdx i++(L.drop (i+1 - 1)++Z)=L++Z:=by
    rw [AG,AH (by omega),eE,← oM,show i+1 - 1=i from rfl,JV]
  have hc:bR (L++Z) i (List.replicate 1 zU)=L.eraseIdx i++(zU::Z):=by
    have h:=Dk (z:=zU) (Z:=Z) hn (show i<i+1 by omega)
    rw [hr] at h;exact h
  let q:=ae [aw 8 false 0 (L++Z)];let q1:=AHeap.mk 1000000 (bM q ([0]) Tr.nil);let q2:=(some (nV (i+1)));let q3:=dt 0 0 0 i (some (i+1+k));let q4:=(some (dt 0 0 0 (i+1) (some (i+1+k))));let q5:=(some (nV i));let q6:=AHeap.mk 1 (bM q ([0,0]) Tr.nil);let q7:=dt 0 0 (i+1) 0 (some k);let q8:=dt 0 0 i 1 (some (k+1));exact gI Tryz.func240 (fun qq=>Mg 5 (Mo (by exact Ce (xs:=L++Z) (l:=i) (h:=i+1) (m:=i+1) (by kernel_rfl) (by rfl) (by rfl) (by rfl) (by omega) (by omega) (by omega) (by omega) (by omega) (by omega) (by omega):bo q (dC (8) q q4 q5 q2 q2)=some (eQ (dt 0 0 i 1 (some 1)) q)) (Mg 2 (Mh hq (Mg 4 (Mv (by exact iQ (xs:=L++Z) (l:=0) (h:=i) (by kernel_rfl) (by rfl) (by rfl) (by omega) (by omega) (by omega) (by omega) (by omega) (by omega):bo (q1) (dC (8) (q1) q4 (none) q5 (none))=some (eQ q3 q1)) (Mg 1 (Mv (by exact iQ (xs:=L++Z) (l:=i+1) (h:=i+1) (by kernel_rfl) (by rfl) (by rfl) (by omega) (by omega) (by omega) (by omega) (by omega) (by omega):bo (q1) (dC (8) (q1) q4 q2 (none) (none))=some (eQ q7 q1)) (Md rt (kJ (bZ (sz:=8) (op:=false) (ep:=0) (n:=1) (by assumption:aY (L++Z)=0)) (kJ (bZ (sz:=8) (op:=false) (ep:=0) (n:=1) (by assumption:aY (L++Z)=0)) rt)) (by exact RW (xg rfl List.take_zero):fj (dw (8) (120) (q6) ((some q3)) ((some q7)))=some (eQ q3 q6)) (Mg 4 (Mo (by exact iQ (xs:=L++Z) (l:=i) (h:=i+1) (by kernel_rfl) (by rfl) (by rfl) (by omega) (by omega) (by omega) (by omega) (by omega) (by omega):bo q (dC (8) q ((some q3)) q5 q2 (none))=some (eQ q8 q)) (Mo (by exact IC rfl (by kernel_rfl) hc:fj (ud (8) (ab [iV 0,iV 0,iV 0,iV 0,af [],aR,aR,aR]) q ((some q8)))=some (eQ (fQ []) (ae [aw 8 false 0 (L.eraseIdx i++zU::Z)]))) (Mg 1 (Mf qq))))))))))))))
theorem QB (L:List AV) (i:Nat) (hn:L.length=i+1) (hs:i<2 ^ 20) (hT:aY L=0):kD 240 [.slice 0 0 0 (i+1) (some (i+1)),nV i,nV (i+1)] (ae [dn L]) (.slice 0 0 0 i (some (i+1))) (ae [dn (L.eraseIdx i++ [zU])]):=by
  have hq:az (Int.ofNat i) (Int.ofNat (i+1))=false:=WM (by omega)
  have hr:L.eraseIdx i++(L.drop (i+1 - 1)++ [])=L:=by
    rw [AG,AH (by omega),eE,eE,show i+1 - 1=i from rfl,JV]
  have hc:bR L i (List.replicate 1 zU)=L.eraseIdx i++ [zU]:=by
    have h:=Dk (z:=zU) (Z:= []) hn (show i<i+1 by omega)
    rw [hr] at h;exact h
  let q:=ae [aw 8 false 0 L];let q1:=AHeap.mk 1000000 (bM q ([0]) Tr.nil);let q2:=(some (nV (i+1)));let q3:=dt 0 0 0 i (some (i+1));let q4:=(some (dt 0 0 0 (i+1) (some (i+1))));let q5:=(some (nV i));let q6:=dt 0 0 i 1 (some 1);let q7:=AHeap.mk 1 (bM q ([0,0]) Tr.nil);let q8:=dt 0 0 0 0 (some 0);exact gI Tryz.func240 (fun qq=>Mg 5 (Mo (by exact Ce (xs:=L) (l:=i) (h:=i+1) (m:=i+1) (by kernel_rfl) (by rfl) (by rfl) (by rfl) (by omega) (by omega) (by omega) (by omega) (by omega) (by omega) (by omega):bo q (dC (8) q q4 q5 q2 q2)=some (eQ q6 q)) (Mg 2 (Mh hq (Mg 4 (Mv (by exact iQ (xs:=L) (l:=0) (h:=i) (by kernel_rfl) (by rfl) (by rfl) (by omega) (by omega) (by omega) (by omega) (by omega) (by omega):bo (q1) (dC (8) (q1) q4 (none) q5 (none))=some (eQ q3 q1)) (Mg 1 (Mv (by exact Jl (xs:=L) (l:=i+1) (h:=i+1) (by kernel_rfl) (by rfl) (by rfl) (by rfl) rfl:bo (q1) (dC (8) (q1) q4 q2 (none) (none))=some (eQ q8 q1)) (Md rt (kJ (bZ (sz:=8) (op:=false) (ep:=0) (n:=1) (by assumption:aY (L)=0)) (kJ (bZ (sz:=8) (op:=false) (ep:=0) (n:=1) (by assumption:aY (L)=0)) rt)) (by exact RW (xg rfl List.take_zero):fj (dw (8) (120) (q7) ((some q3)) ((some q8)))=some (eQ q3 q7)) (Mg 4 (Mo (by exact iQ (xs:=L) (l:=i) (h:=i+1) (by kernel_rfl) (by rfl) (by rfl) (by omega) (by omega) (by omega) (by omega) (by omega) (by omega):bo q (dC (8) q ((some q3)) q5 q2 (none))=some (eQ q6 q)) (Mo (by exact IC rfl (by kernel_rfl) hc:fj (ud (8) (ab [iV 0,iV 0,iV 0,iV 0,af [],aR,aR,aR]) q ((some q6)))=some (eQ (fQ []) (ae [aw 8 false 0 (L.eraseIdx i++ [zU])]))) (Mg 1 (Mf qq))))))))))))))
theorem QA (L Z:List AV) (n i:Nat) (hi:i<n) (hn:L.length=n) (hs:n≤2 ^ 20) (hf:dh 8 L=true) (hT:aY (L++Z)=0):kD 240 [.slice 0 0 0 n (some (n+Z.length)),nV i,nV (i+1)] (ae [dn (L++Z)]) (.slice 0 0 0 (n - 1) (some (n+Z.length))) (ae [dn (L.eraseIdx i++(zU::Z))]):=by
  rcases jJ (i+1) n with h | h
  · exact QD L Z n _ i h hn hs hf rfl hT
  · obtain rfl:n=i+1:=by omega
    cases Z with
    | nil=>rw [eE];rw [eE] at hT;exact QB L i hn (by omega) hT
    | cons z r=>exact QC L (z::r) _ i hn (by omega) (Nat.succ_pos _) rfl hT
/-- A list with an element more at a place. -/
def gv (i:Nat) (x:AV) (l:List AV):List AV:=l.take i++(x::l.drop i)
theorem yn {i:Nat} {x:AV} {l:List AV} (h:i≤l.length):(gv i x l).length=l.length+1:=by
  grind [gv]
theorem Fw {x:AV} {l:List AV} {n:Nat} (h:l.length=n):gv n x l=l++ [x]:=by
  grind [gv]
theorem Xw (n:Nat):az (Int.ofNat n) (Int.ofNat n)=true:=bF _
theorem Yj {a b:Nat} (h:a<b):ao (Int.ofNat a) (Int.ofNat b)=true:=E5 (by simp_all)
theorem Yk {a b:Nat} (h:b≤a):ao (Int.ofNat a) (Int.ofNat b)=false:=vK (by simp_all)
theorem Th {L Z:List AV} {x z:AV} {n:Nat} (h:L.length=n):bR (L++z::Z) (0+n) [x]=gv n x L++Z:=by
  unfold bR
  rw [Fw h,gK,← h,List.take_left,show (L++z::Z).drop (L.length + [x].length)=Z by rw [← AM,List.drop_left];rfl]
theorem X9 {L Z:List AV} {n i m:Nat} (h:L.length=n) (hi:i<n) (hm:n - i≤m):(((L++Z).drop i).take m).take (n - i)=L.drop i:=by
  grind
theorem So {L Z:List AV} {z:AV} {n i:Nat} (h:L.length=n) (hi:i<n):bR (L++z::Z) (i+1) (L.drop i)=L.take (i+1)++(L.drop i++Z):=by
  unfold bR
  rw [AF (by omega),oM,jW,show i+1+(L.length - i)=L.length+1 by omega,← AM,List.drop_left];rfl
theorem O8 {L Z:List AV} {x:AV} {n i:Nat} (h:L.length=n) (hi:i<n):bR (L.take (i+1)++(L.drop i++Z)) i [x]=gv i x L++Z:=by
  unfold bR gv
  grind
theorem Sd {L:List AV} {z x:AV} {n i:Nat} (h:L.length=n) (hi:i<n):bR (L.take i++List.replicate (n+1 - i) z) i [x]=L.take i++(x::List.replicate (n - i) z):=by
  unfold bR
  have h1:(L.take i).length=i:=by grind
  have e:n+1 - i=(n - i)+1:=by omega
  rw [AF (by omega),re (by omega),← AM]
  simp_all
theorem O5 {L:List AV} {z x:AV} {n i:Nat} (h:L.length=n) (hi:i<n):bR (L.take i++(x::List.replicate (n - i) z)) (i+1) (L.drop i)=gv i x L:=by
  unfold bR gv
  have h1:(L.take i).length=i:=by grind
  have h2:(L.take i++(x::List.replicate (n - i) z)).length=n+1:=by grind
  have e:(L.take i++(x::List.replicate (n - i) z)).drop (i+1+(L.drop i).length) = []:=AH (by grind)
  grind
theorem Ph (L Z:List AV) (x z:AV) (t:Bool) (n k:Nat) (hn:L.length=n) (hs:n<2 ^ 20) (hk:Z.length=k) (hx:dh 8 [x]=true):kD 138 [.slice 0 0 0 n (some (n+(k+1))),nV n, .ps [x] t] (ae [dn (L++z::Z)]) (.slice 0 0 0 (n+1) (some (n+(k+1)))) (ae [dn (gv n x L++Z)]):=by
  have hq:=Xw n
  let q:=ae [aw 8 false 0 (L++z::Z)];exact gI Tryz.func138 (fun qq=>Mg 2 (Mo (by exact iQ (xs:=L++z::Z) (l:=n) (h:=n) (by kernel_rfl) (by rfl) (by rfl) (by omega) (by omega) (by omega) (by omega) (by omega) (by omega):bo q (dC (8) q ((some (dt 0 0 0 n (some (n+(k+1)))))) ((some (nV n))) (none) (none))=some (eQ (dt 0 0 n 0 (some (k+1))) q)) (Mg 11 (Mt hq (Mg 1 (Mo (by exact KR (new:= [x]) rfl (by rfl) hx (qz _ _) (by simp_all) (by simp_all) (aA (m:=2 ^ 20) (by grind) (by omega) (by omega)) rfl (Th hn):fj (dw (8) (120) (ae [aw 8 false 0 (L++z::Z)]) ((some (dt 0 0 0 n (some (n+(k+1)))))) ((some (eL [x] t))))=some (eQ (dt 0 0 0 (n+1) (some (n+(k+1)))) (ae [aw 8 false 0 (gv n x L++Z)]))) (Mg 0 (Mf qq))))))))
theorem Pg (L:List AV) (x:AV) (t:Bool) (n:Nat) (hn:L.length=n) (hs:n<2 ^ 20) (hx:dh 8 [x]=true) (hT:aY L=0) (hI:aY (gv n x L)=0):kD 138 [.slice 0 0 0 n (some n),nV n, .ps [x] t] (ae [dn L]) (.ls (gv n x L)) (ae [dn L]):=by
  have hq:=Xw n
  have hIl:(gv n x L).length=n+1:=(yn (by omega)).trans (by omega)
  let q:=ae [aw 8 false 0 L];exact gI Tryz.func138 (fun qq=>Mg 2 (Mo (by exact Jl (xs:=L) (l:=n) (h:=n) (by kernel_rfl) (by rfl) (by rfl) (by rfl) rfl:bo q (dC (8) q ((some (dt 0 0 0 n (some n)))) ((some (nV n))) (none) (none))=some (eQ (dt 0 0 0 0 (some 0)) q)) (Mg 11 (Mt hq (Mg 1 (Mo (by exact T2 (new:= [x]) rfl (by rfl) hx (qz _ _) (by simp_all) (aA (m:=2 ^ 20) (by grind) (by omega) (by omega)) (by grind [Fw]) ((yn (by omega)).trans (by omega)):fj (dw (8) (120) (ae [aw 8 false 0 L]) ((some (dt 0 0 0 n (some n)))) ((some (eL [x] t))))=some (eQ (dt 1 0 0 (n+1) none) (ae [aw 8 false 0 L,aw 8 true 0 (gv n x L)]))) (Mg 0 (M2 (.fsl 1 [] 6 (gv n x L)) (et (bZ (sz:=8) (op:=false) (ep:=0) (n:=1) (by omega:aY (L)=0)) ti) (eR (ax (0)) (UZ (by omega:(gv n x L).length=n+1)) (by omega:aY (gv n x L)=0)) (Ml 6 (ib (gv n x L) (false) (by omega:aY (gv n x L)=0)) (Mf qq))))))))))
theorem Pe (L Z:List AV) (x z:AV) (t:Bool) (n k i:Nat) (hi:i<n) (hn:L.length=n) (hs:n<2 ^ 20) (hk:Z.length=k) (hx:dh 8 [x]=true) (hf:dh 8 L=true) (hT:aY (L++z::Z)=0) (hov:kD 237 [.ps [x] t, .slice 0 0 (i+1) (n - i) (some (n+(k+1) - (i+1)))] (ae [dn (L++z::Z)]) (.bool false) (ae [dn (L++z::Z)])):kD 138 [.slice 0 0 0 n (some (n+(k+1))),nV i, .ps [x] t] (ae [dn (L++z::Z)]) (.slice 0 0 0 (n+1) (some (n+(k+1)))) (ae [dn (gv i x L++Z)]):=by
  have hq:az (Int.ofNat i) (Int.ofNat n)=false:=WM (by omega)
  have hl:ao (Int.ofNat (n+(k+1))) (Int.ofNat (n+1))=false:=Yk (by omega)
  let q:=ae [aw 8 false 0 (L++z::Z)];let q1:=ae [aw 8 false 0 (L.take (i+1)++(L.drop i++Z))];let q2:=AHeap.mk 1000000 (bM q ([0]) Tr.nil);let q3:=dt 0 0 0 (n+1) (some (n+(k+1)));let q4:=dt 0 0 i (n+1 - i) (some (n+(k+1) - i));let q5:=(some (nV i));let q6:=dt 0 0 (i+1) (n - i) (some (n+(k+1) - (i+1)));let q7:=(some (nV (i+1)));let q8:=(some (dt 0 0 0 n (some (n+(k+1)))));exact gI Tryz.func138 (fun qq=>Mg 2 (Mo (by exact iQ (xs:=L++z::Z) (l:=i) (h:=n) (by kernel_rfl) (by rfl) (by rfl) (by omega) (by omega) (by omega) (by omega) (by omega) (by omega):bo q (dC (8) q q8 q5 (none) (none))=some (eQ (dt 0 0 i (n - i) (some (n+(k+1) - i))) q)) (Mg 11 (Mh hq (Mg 2 (Ml 28 (bb (x:=Int.ofNat n+(1:Int)) (n:=n+(1:Nat)) cq) (Mg 2 (Mh hl (Mg 3 (Ml 59 (bb (x:=Int.ofNat n+(1:Int)) (n:=n+(1:Nat)) cq) (Mo (by exact iQ (xs:=L++z::Z) (l:=0) (h:=n+1) (by kernel_rfl) (by rfl) (by rfl) (by omega) (by omega) (by omega) (by omega) (by omega) (by omega):bo q (dC (8) q q8 (none) ((some (nV (n+1)))) (none))=some (eQ q3 q)) (Mg 5 (Ml 65 (bb (x:=Int.ofNat i+(1:Int)) (n:=i+(1:Nat)) cq) (Mo (by exact iQ (xs:=L++z::Z) (l:=i+1) (h:=n+1) (by kernel_rfl) (by rfl) (by rfl) (by omega) (by omega) (by omega) (by omega) (by omega) (by omega):bo q (dC (8) q ((some q3)) q7 (none) (none))=some (eQ q6 q)) (Me (hov) (Mg 4 (Ma (bb (x:=Int.ofNat i+(1:Int)) (n:=i+(1:Nat)) cq) (Mv (by exact iQ (xs:=L++z::Z) (l:=i+1) (h:=n+1) (by kernel_rfl) (by rfl) (by rfl) (by omega) (by omega) (by omega) (by omega) (by omega) (by omega):bo (q2) (dC (8) (q2) ((some q3)) q7 (none) (none))=some (eQ q6 q2)) (Mg 1 (Mv (by exact iQ (xs:=L++z::Z) (l:=i) (h:=n+1) (by kernel_rfl) (by rfl) (by rfl) (by omega) (by omega) (by omega) (by omega) (by omega) (by omega):bo (q2) (dC (8) (q2) ((some q3)) q5 (none) (none))=some (eQ q4 q2)) (Md rt (kJ (bZ (sz:=8) (op:=false) (ep:=0) (n:=1) (by omega:aY (L++z::Z)=0)) (kJ (bZ (sz:=8) (op:=false) (ep:=0) (n:=1) (by omega:aY (L++z::Z)=0)) rt)) (by exact KC (zs:=((L++z::Z).drop i).take (n+1 - i)) rfl (xg rfl rfl) (by grind [pH]) (by grind) (by grind [So]):fj (sP (8) ((AHeap.mk 1 (bM (ae [aw 8 false 0 (L++z::Z)]) ([0,0]) Tr.nil))) ((some (dt 0 0 (i+1) (n - i) (some (n+(k+1) - (i+1)))))) ((some (dt 0 0 i (n+1 - i) (some (n+(k+1) - i))))))=some (eQ (nV (n - i)) (AHeap.put (AHeap.mk 1 (bM (ae [aw 8 false 0 (L++z::Z)]) ([0,0]) Tr.nil)) 0 (aw 8 false 0 (L.take (i+1)++(L.drop i++Z)))))) (Mg 1 (Mo (by exact iQ (xs:=L.take (i+1)++(L.drop i++Z)) (l:=i) (h:=n+1) (by kernel_rfl) (by rfl) (by rfl) (by omega) (by omega) (by omega) (by omega) (by omega) (by omega):bo q1 (dC (8) q1 ((some q3)) q5 (none) (none))=some (eQ q4 q1)) (Mg 0 (Mo (by exact KC (zs:= [x]) rfl (by rfl) (pG hx) (by grind) (by grind [List.take_of_length_le, O8]):fj (sP (8) q1 ((some q4)) ((some (eL [x] t))))=some (eQ (iV 1) (ae [aw 8 false 0 (gv i x L++Z)]))) (Mg 1 (Mf qq)))))))))))))))))))))))))))
theorem Pd (L:List AV) (x:AV) (t:Bool) (n i:Nat) (hi:i<n) (hn:L.length=n) (hs:n<2 ^ 20) (hx:dh 8 [x]=true) (hf:dh 8 L=true) (hT:aY L=0) (hT2:aY (L.take i++(x::List.replicate (n - i) zU))=0) (hI:aY (gv i x L)=0):kD 138 [.slice 0 0 0 n (some n),nV i, .ps [x] t] (ae [dn L]) (.ls (gv i x L)) (ae [dn L]):=by
  have hq:az (Int.ofNat i) (Int.ofNat n)=false:=WM (by omega)
  have hl:ao (Int.ofNat n) (Int.ofNat (n+1))=true:=Yj (by omega)
  have hIl:(gv i x L).length=n+1:=(yn (by omega)).trans (by omega)
  let q:=ae [aw 8 false 0 L,aw 8 true 0 (L.take i++x::List.replicate (n - i) zU)];let q1:=ae [aw 8 false 0 L,aw 8 true 0 (L.take i++List.replicate (n+1 - i) zU)];let q2:=ae [aw 8 false 0 L];let q3:=(some (nV i));let q4:=AHeap.mk 1000000 (bM q ([0]) Tr.nil);let q5:=dt 0 0 i (n - i) (some (n - i));let q6:=(some (dt 0 0 0 n (some n)));let q7:=AHeap.mk 2 (bM q ([1,0]) Tr.nil);let q8:=dt 1 0 i (n+1 - i) none;let q9:=dt 1 0 0 (n+1) none;let q10:=dt 0 0 0 i (some n);exact gI Tryz.func138 (fun qq=>Mg 2 (Mo (by exact iQ (xs:=L) (l:=i) (h:=n) (by kernel_rfl) (by rfl) (by rfl) (by omega) (by omega) (by omega) (by omega) (by omega) (by omega):bo q2 (dC (8) q2 q6 q3 (none) (none))=some (eQ q5 q2)) (Mg 11 (Mh hq (Mg 2 (Ml 28 (bb (x:=Int.ofNat n+(1:Int)) (n:=n+(1:Nat)) cq) (Mg 2 (Mt hl (Mg 1 (Mo (by exact iQ (xs:=L) (l:=0) (h:=i) (by kernel_rfl) (by rfl) (by rfl) (by omega) (by omega) (by omega) (by omega) (by omega) (by omega):bo q2 (dC (8) q2 q6 (none) q3 (none))=some (eQ q10 q2)) (Mg 2 (Ml 37 (bb (x:=Int.ofNat n+(1:Int)) (n:=n+(1:Nat)) cq) (Mg 0 (Mo (by (show bo _ (some (AV.int .i64 (IntKind.i64.wrap (Int.ofNat (n+1) - Int.ofNat i))))=_;rw [show (Int.ofNat (n+1) - Int.ofNat i)=Int.ofNat (n+1 - i) by grind,wx (by simp_all) (by grind)];rfl):bo (ae [aw 8 false 0 L]) (UD (qY BinOp.sub (Tryz.prog.underlying 3) (cO Tryz.prog 3) (cS Tryz.prog 3) (dL Tryz.prog 10 3 0)) ((some (nV (n+1)))) ((some (nV i))))=some (eQ (nV (n+1 - i)) (ae [aw 8 false 0 L]))) (Mo (by exact Sm rfl (by omega) (by omega) (by kernel_rfl) (aA (m:=2 ^ 21) (by omega) (by omega) (by omega)) (aA (m:=2 ^ 21) (by omega) (by omega) (by omega)) (by simp_all) (by grind):fj (Bs (8) (120) (ab [iV 0,iV 0,iV 0,iV 0,af [],aR,aR,aR]) q2 ((some q10)) ((some (nV (n+1 - i)))))=some (eQ q9 q1)) (Mg 2 (Mo (by exact Ji (xs:=L.take i++List.replicate (n+1 - i) zU) (l:=i) (h:=n+1) (by kernel_rfl) (by rfl) (by rfl) (by omega) (by grind) (by omega) (by omega):bo q1 (dC (8) q1 ((some q9)) q3 (none) (none))=some (eQ q8 q1)) (Mg 0 (Mo (by exact KC (zs:= [x]) rfl (by rfl) (pG hx) (by grind) (by grind [List.take_of_length_le, Sd]):fj (sP (8) q1 ((some q8)) ((some (eL [x] t))))=some (eQ (iV 1) q)) (Mg 2 (Ma (bb (x:=Int.ofNat i+(1:Int)) (n:=i+(1:Nat)) cq) (Mv (by exact Ji (xs:=L.take i++(x::List.replicate (n - i) zU)) (l:=i+1) (h:=n+1) (by kernel_rfl) (by rfl) (by rfl) (by omega) (by grind) (by omega) (by omega):bo ((AHeap.mk 1000000 (bM (ae [aw 8 false 0 L,aw 8 true 0 (L.take i++x::List.replicate (n - i) zU)]) ([1]) Tr.nil))) (dC (8) ((AHeap.mk 1000000 (bM (ae [aw 8 false 0 L,aw 8 true 0 (L.take i++x::List.replicate (n - i) zU)]) ([1]) Tr.nil))) ((some (dt 1 0 0 (n+1) none))) ((some (nV (i+1)))) (none) (none))=some (eQ (dt 1 0 (i+1) (n - i) none) (AHeap.mk 1000000 (bM (ae [aw 8 false 0 L,aw 8 true 0 (L.take i++x::List.replicate (n - i) zU)]) ([1]) Tr.nil)))) (Mg 1 (Mv (by exact iQ (xs:=L) (l:=i) (h:=n) (by kernel_rfl) (by rfl) (by rfl) (by omega) (by omega) (by omega) (by omega) (by omega) (by omega):bo (q4) (dC (8) (q4) q6 q3 (none) (none))=some (eQ q5 q4)) (Md rt (kJ (bZ (sz:=8) (op:=true) (ep:=0) (n:=2) (by omega:aY (L.take i++x::List.replicate (n - i) zU)=0)) (kJ (bZ (sz:=8) (op:=false) (ep:=0) (n:=2) (by omega:aY (L)=0)) rt)) (by exact KC (zs:=L.drop i) rfl (xg rfl (re (by simp_all))) (pG (pH hf)) (by simp_all) (by grind [List.length_drop, O5]):fj (sP (8) (q7) ((some (dt 1 0 (i+1) (n - i) none))) ((some q5)))=some (eQ (nV (n - i)) (AHeap.put q7 1 (aw 8 true 0 (gv i x L))))) (Mg 1 (M2 (.fsl 1 [] 6 (gv i x L)) (et (bZ (sz:=8) (op:=false) (ep:=0) (n:=1) (by omega:aY (L)=0)) ti) (eR (ax (0)) (UZ (by omega:(gv i x L).length=n+1)) (by omega:aY (gv i x L)=0)) (Ml 6 (ib (gv i x L) (false) (by omega:aY (gv i x L)=0)) (Mf qq)))))))))))))))))))))))))))))
theorem Fj (x:TUnit) (t:Bool):kP 138 [.nils,iV 0, .ps [eU x] t] (.ls [eU x]):=by
  have hx:dh 8 [eU x]=true:=by kernel_rfl
  have hIl : [eU x].length=1:=rfl
  have hI:aY [eU x]=0:=by kernel_rfl
  let q:= [ab [iV x.act,iV x.item,iV x.n,iV x.kind,af x.label,aU (x.head.map aQ),aU (x.words.map aQ),aU (x.kids.map aX)]];exact b7 Tryz.func138 (Mg 18 (Mo (by (simp only [dw,gz,jT,jN,gG,hx];rfl):fj (dw (8) (120) (ae []) ((some (aR))) ((some (eL [ab [iV x.act,iV x.item,iV x.n,iV x.kind,af x.label,aU (x.head.map aQ),aU (x.words.map aQ),aU (x.kids.map aX)]] t))))=some (eQ (dt 0 0 0 1 none) (ae [aw 8 true 0 [eU x]]))) (Mg 0 (M1 (.frz 0 [6]) ti (Mf ((ib (q) _ (by rfl)):Le _ (eL q false)))))))
theorem Fx (x:TUnit) (t:Bool):kP 138 [.ps [] true,iV 0, .ps [eU x] t] (.ls [eU x]):=by
  have hx:dh 8 [eU x]=true:=by kernel_rfl
  have hIl : [eU x].length=1:=rfl
  have hI:aY [eU x]=0:=by kernel_rfl
  let q:= [ab [iV x.act,iV x.item,iV x.n,iV x.kind,af x.label,aU (x.head.map aQ),aU (x.words.map aQ),aU (x.kids.map aX)]];exact b7 Tryz.func138 (Mg 18 (Mo (by (simp only [dw,gz,jT,jN,gG,hx];rfl):fj (dw (8) (120) (ae []) ((some (eL [] true))) ((some (eL [ab [iV x.act,iV x.item,iV x.n,iV x.kind,af x.label,aU (x.head.map aQ),aU (x.words.map aQ),aU (x.kids.map aX)]] t))))=some (eQ (dt 0 0 0 1 none) (ae [aw 8 true 0 [eU x]]))) (Mg 0 (M1 (.frz 0 [6]) ti (Mf ((ib (q) _ (by rfl)):Le _ (eL q false)))))))
noncomputable def Jc:TypeInfo:=(Tryz.prog.info? 27).getD default
theorem Nu:Tryz.prog.info? 27=some Jc:=by kernel_rfl
/-- A unit of zero values says no more than the zero value. -/
theorem Wk:Le (aX bu) zU:=bX (.cons (Le.refl _) (.cons (Le.refl _) (.cons (Le.refl _) (.cons (Le.refl _) (.cons (Le.refl _) (.cons Le.nils (.cons Le.nils (.cons Le.nils .nil)))))))) rfl
theorem Hk:Jc.size=8:=by kernel_rfl
theorem D9:Jc.bytes=120:=by kernel_rfl
theorem Xj (l:List TUnit):dh 8 (l.map aX)=true:=fa (fun u=>by cases u;rfl) l
/-- A copy of units: a row of its own, which holds zero values behind them. -/
theorem Dw (xs:List TUnit) (hne:xs≠ []) (hl:xs.length≤2 ^ 20) (a b c:AObj):kC 236 [.ls (xs.map aX)] (ae [a,b,c])
    (fun v h=>∃ k:Nat,True∧v = .slice 3 0 0 xs.length (some (xs.length+k))∧h=ae [a,b,c,dn ((xs++List.replicate k bu).map aX)]):=by
  simp only [mB,List.map_replicate]
  have hn:xs.map aX≠ []:=fun h=>hne (List.map_eq_nil_iff.1 h)
  have hf:=Xj xs
  have hsm:small (xs.map aX).length 120=true:=by rw [lM];exact aA hl (by decide) (by decide)
  have hlen:xs.length=(xs.map aX).length:=(eZ ..).symm
  rw [hlen]
  generalize xs.map aX=L at hn hf hsm
  refine aB.enter 2 (fn:=Tryz.f236) Tryz.func236 (by kernel_rfl) rfl ⟨by kernel_rfl,by kernel_rfl⟩ ?_
  refine am.seq (am.mono (rY io eP (ev 40) (s':=⟨co 8 [(0, .ls L),(2, .nils)],ae [a,b,c]⟩) (.go 0 .fin) (by kernel_rfl)) ?_)
  rintro _ _ ⟨rfl,rfl⟩
  refine am.seq (am.seq (am.mono (ma eP (ev 40) (Ψ:=fun s=>s=⟨co 8 [(0, .ls L),(2, .nils),(3, .ps L false),(4, .bool false)],ae [a,b,c]⟩) (.go 0 (.nz 3 .abs (.go 0 .fin)))
    (W:=(L = []→False)∧(⟨co 8 [(0, .ls L),(2, .nils),(3, .ps L false),(4, .bool false)],ae [a,b,c]⟩:St)=⟨co 8 [(0, .ls L),(2, .nils),(3, .ps L false),(4, .bool false)],ae [a,b,c]⟩) ⟨hn,rfl⟩ (by kernel_rfl)) ?_))
  rintro _ _ ⟨rfl,rfl⟩
  refine am.cond (t:=false) (by kernel_rfl) (fun h=>by cases h) fun _=>am.skip ?_
  refine am.seq (am.region ?_)
  show b6 _ _ _ _ [_,_,_,_] _ _
  refine b6.one (s':=⟨co 8 [(0, .ls L),(2, .nils),(3, .ps L false),(4, .bool false),(5, .ps [] true)],ae [a,b,c]⟩) (ev 40) (by kernel_rfl) ?_
  refine b6.one (s':=⟨co 8 [(0, .ls L),(2, .nils),(3, .ps L false),(4, .bool false),(5, .ps [] true),(6, .ls L)],ae [a,b,c]⟩) (ev 40) (by kernel_rfl) ?_
  refine qW (I:=fun _=>True) (r:=fun k:Nat=> .slice 3 0 0 L.length (some (L.length+k))) (H:=fun k=>ae [a,b,c, .row 8 false 0 (L++List.replicate k (aX bu))]) (by kernel_rfl)
    (fun pl M a w g1 g2 g3=>tQ (z:=aX bu) (z0:=zU) (xs:=L) (t:=25) (tx:=25) (e:=27) (i:=Jc) Hk D9 (by kernel_rfl) ⟨27,by kernel_rfl⟩ Nu (by kernel_rfl) Wk (by kernel_rfl) (by kernel_rfl) hn hf (by kernel_rfl) hsm (by decide) pl M a w g1 g2 g3) fun k _=>?_
  refine ⟨co 8 [(0, .ls L),(2, .nils),(3, .ps L false),(4, .bool false),(5, .ps [] true),(6, .ls L),(7, .slice 3 0 0 L.length (some (L.length+k)))],by kernel_rfl,?_⟩
  refine b6.one (s':=⟨co 8 [(0, .ls L),(2, .slice 3 0 0 L.length (some (L.length+k))),(3, .ps L false),(4, .bool false),(5, .ps [] true),(6, .ls L),(7, .slice 3 0 0 L.length (some (L.length+k)))],ae [a,b,c, .row 8 false 0 (L++List.replicate k (aX bu))]⟩) (ev 40) (by kernel_rfl) (b6.nil (am.ret ⟨fun id h=>(by cases h), .slice 3 0 0 L.length (some (L.length+k)),by kernel_rfl,k,trivial,by kernel_rfl,by kernel_rfl⟩))
/-- The unit that a closure changes: its kids are 'K'. -/
noncomputable abbrev dm (u:TUnit) (K:AV):AObj:= .row 8 false 0 [.agg [iV u.act,iV u.item,iV u.n,iV u.kind, .str u.label, .ls (u.head.map aQ), .ls (u.words.map aQ),K]]
theorem Wy (u:TUnit) (n c i:Nat) (R R':List AV) (hT:aY R=0) (hT2:aY R'=0) (hi:i<n) (hs:n≤2 ^ 20) (hD:kD 240 [.slice 1 0 0 n (some c),nV i,nV (i+1)] (ae [dm u (.slice 1 0 0 n (some c)),dn R]) (.slice 1 0 0 (n - 1) (some c)) (ae [dm u (.slice 1 0 0 n (some c)),dn R'])) :
    kD 239 [.ptr 0 0 0 0, .pptr [nV i] 0 0] (ae [dm u (.slice 1 0 0 n (some c)),dn R]) (.tuple []) (ae [dm u (.slice 1 0 0 (n - 1) (some c)),dn R']):=by
  exact gI Tryz.func239 (fun qq=>Mg 6 (Ma (bb (x:=Int.ofNat i+(1:Int)) (n:=i+(1:Nat)) cq) (M3 (.efx false (dt 1 0 0 (n - 1) (some c)) (ae [aw 8 false 0 [ab [iV u.act,iV u.item,iV u.n,iV u.kind,af u.label,aU (u.head.map aQ),aU (u.words.map aQ),dt 1 0 0 n (some c)]],aw 8 false 0 R'])) (eR (bZ (sz:=8) (op:=false) (ep:=0) (n:=2) (by assumption:aY (R)=0)) rt ti) ti (hD) (Mg 2 (Mf qq)))))
theorem Vb (u x:TUnit) (n c i:Nat) (R R':List AV) (hT:aY R=0) (hT2:aY R'=0) (hD:kD 138 [.slice 1 0 0 n (some c),nV i, .ps [eU x] true] (ae [dm u (.slice 1 0 0 n (some c)),dn R]) (.slice 1 0 0 (n+1) (some c)) (ae [dm u (.slice 1 0 0 n (some c)),dn R'])) :
    kD 137 [.ptr 0 0 0 0, .pptr [nV i] 0 0, .pptr [eU x] 0 0] (ae [dm u (.slice 1 0 0 n (some c)),dn R]) (.tuple []) (ae [dm u (.slice 1 0 0 (n+1) (some c)),dn R']):=by
  exact gI Tryz.func137 (fun qq=>Mg 7 (M3 (.efx false (dt 1 0 0 (n+1) (some c)) (ae [aw 8 false 0 [ab [iV u.act,iV u.item,iV u.n,iV u.kind,af u.label,aU (u.head.map aQ),aU (u.words.map aQ),dt 1 0 0 n (some c)]],aw 8 false 0 R'])) (eR (bZ (sz:=8) (op:=false) (ep:=0) (n:=2) (by assumption:aY (R)=0)) rt ti) ti (hD) (Mg 2 (Mf qq))))
theorem Va (u x:TUnit) (n c i:Nat) (R Y:List AV) (hT:aY R=0) (hD:kD 138 [.slice 1 0 0 n (some c),nV i, .ps [eU x] true] (ae [dm u (.slice 1 0 0 n (some c)),dn R]) (.ls Y) (ae [dm u (.slice 1 0 0 n (some c)),dn R])) :
    kD 137 [.ptr 0 0 0 0, .pptr [nV i] 0 0, .pptr [eU x] 0 0] (ae [dm u (.slice 1 0 0 n (some c)),dn R]) (.tuple []) (ae [dm u (.ls Y),dn R]):=by
  let q:= [ab [iV u.act,iV u.item,iV u.n,iV u.kind,af u.label,aU (u.head.map aQ),aU (u.words.map aQ),dt 1 0 0 n (some c)]];exact gI Tryz.func137 (fun qq=>Mg 7 (M3 (.efx true (aU Y) (ae [aw 8 false 0 q,aw 8 false 0 R])) (eR (bZ (sz:=8) (op:=false) (ep:=0) (n:=2) (by assumption:aY (R)=0)) rt ti) (eR (ax (some (aw 8 false 0 R))) (ax (some (aw 8 false 0 q))) ti) (hD) (Mg 2 (Mf qq))))
theorem Vy (u x:TUnit) (Y:List AV) (hD:kP 138 [.nils,iV 0, .ps [eU x] true] (.ls Y)) :
    kD 137 [.ptr 0 0 0 0, .pptr [iV 0] 0 0, .pptr [eU x] 0 0] (ae [dm u .nils]) (.tuple []) (ae [dm u (.ls Y)]):=by
  exact gI Tryz.func137 (fun qq=>Mg 7 (Mp (hD) (Mg 2 (Mf qq))))
theorem Vv (u x:TUnit) (Y:List AV) (hD:kP 138 [(.ps [] true),iV 0, .ps [eU x] true] (.ls Y)) :
    kD 137 [.ptr 0 0 0 0, .pptr [iV 0] 0 0, .pptr [eU x] 0 0] (ae [dm u (.ps [] true)]) (.tuple []) (ae [dm u (.ls Y)]):=by
  exact gI Tryz.func137 (fun qq=>Mg 7 (Mp (hD) (Mg 2 (Mf qq))))
theorem VJ (u x:TUnit) (n c i:Nat) (R R':List AV) (hT:aY R=0) (hT2:aY R'=0) (hD:kD 138 [.slice 1 0 0 n (some c),nV i, .ps [eU x] true] (ae [dm u (.slice 1 0 0 n (some c)),dn R]) (.slice 1 0 0 (n+1) (some c)) (ae [dm u (.slice 1 0 0 n (some c)),dn R'])) :
    kD 148 [.ptr 0 0 0 0, .pptr [nV i] 0 0, .pptr [eU x] 0 0] (ae [dm u (.slice 1 0 0 n (some c)),dn R]) (.tuple []) (ae [dm u (.slice 1 0 0 (n+1) (some c)),dn R']):=by
  exact gI Tryz.func148 (fun qq=>Mg 7 (M3 (.efx false (dt 1 0 0 (n+1) (some c)) (ae [aw 8 false 0 [ab [iV u.act,iV u.item,iV u.n,iV u.kind,af u.label,aU (u.head.map aQ),aU (u.words.map aQ),dt 1 0 0 n (some c)]],aw 8 false 0 R'])) (eR (bZ (sz:=8) (op:=false) (ep:=0) (n:=2) (by assumption:aY (R)=0)) rt ti) ti (hD) (Mg 2 (Mf qq))))
theorem VW (u x:TUnit) (n c i:Nat) (R Y:List AV) (hT:aY R=0) (hD:kD 138 [.slice 1 0 0 n (some c),nV i, .ps [eU x] true] (ae [dm u (.slice 1 0 0 n (some c)),dn R]) (.ls Y) (ae [dm u (.slice 1 0 0 n (some c)),dn R])) :
    kD 148 [.ptr 0 0 0 0, .pptr [nV i] 0 0, .pptr [eU x] 0 0] (ae [dm u (.slice 1 0 0 n (some c)),dn R]) (.tuple []) (ae [dm u (.ls Y),dn R]):=by
  let q:= [ab [iV u.act,iV u.item,iV u.n,iV u.kind,af u.label,aU (u.head.map aQ),aU (u.words.map aQ),dt 1 0 0 n (some c)]];exact gI Tryz.func148 (fun qq=>Mg 7 (M3 (.efx true (aU Y) (ae [aw 8 false 0 q,aw 8 false 0 R])) (eR (bZ (sz:=8) (op:=false) (ep:=0) (n:=2) (by assumption:aY (R)=0)) rt ti) (eR (ax (some (aw 8 false 0 R))) (ax (some (aw 8 false 0 q))) ti) (hD) (Mg 2 (Mf qq))))
theorem VX (u x:TUnit) (Y:List AV) (hD:kP 138 [.nils,iV 0, .ps [eU x] true] (.ls Y)) :
    kD 148 [.ptr 0 0 0 0, .pptr [iV 0] 0 0, .pptr [eU x] 0 0] (ae [dm u .nils]) (.tuple []) (ae [dm u (.ls Y)]):=by
  exact gI Tryz.func148 (fun qq=>Mg 7 (Mp (hD) (Mg 2 (Mf qq))))
theorem VZ (u x:TUnit) (Y:List AV) (hD:kP 138 [(.ps [] true),iV 0, .ps [eU x] true] (.ls Y)) :
    kD 148 [.ptr 0 0 0 0, .pptr [iV 0] 0 0, .pptr [eU x] 0 0] (ae [dm u (.ps [] true)]) (.tuple []) (ae [dm u (.ls Y)]):=by
  exact gI Tryz.func148 (fun qq=>Mg 7 (Mp (hD) (Mg 2 (Mf qq))))
theorem Ww (u:TUnit) (l:List PWord):kD 141 [.ptr 0 0 0 0, .pptr [.ls (l.map aQ)] 0 0] (ae [dm u (.ls (u.kids.map aX))]) (.tuple []) (ae [dm (kT l u) (.ls (u.kids.map aX))]):=by
  exact gI Tryz.func141 (fun qq=>Mg 4 (Mf qq))
theorem WD (u:TUnit) (l:List PWord):kD 143 [.ptr 0 0 0 0, .pptr [.ls (l.map aQ)] 0 0] (ae [dm u (.ls (u.kids.map aX))]) (.tuple []) (ae [dm (kT l u) (.ls (u.kids.map aX))]):=by
  exact gI Tryz.func143 (fun qq=>Mg 4 (Mf qq))
theorem XV (u:TUnit) (l:List PWord):kD 145 [.ptr 0 0 0 0, .pptr [.ls (l.map aQ)] 0 0] (ae [dm u (.ls (u.kids.map aX))]) (.tuple []) (ae [dm (yu l u) (.ls (u.kids.map aX))]):=by
  exact gI Tryz.func145 (fun qq=>Mg 4 (Mf qq))
theorem WA (u:TUnit) (d:PDeed):kD 147 [.ptr 0 0 0 0, .pptr [bc d] 0 0] (ae [dm u (.ls (u.kids.map aX))]) (.tuple []) (ae [dm (oK d.it.label u) (.ls (u.kids.map aX))]):=by
  exact gI Tryz.func147 (fun qq=>Mg 6 (Mf qq))
noncomputable abbrev tI (p:PId):AObj:= .row 3 false 0 [aZ p]
noncomputable abbrev zO:AObj:= .row 8 false 0 [zU]
theorem Gr:kP 236 [.nils] .nils:=by
  exact wk Tryz.func236 (.go 4 .fin) (aW (aR))
theorem Gp:kP 236 [.ps [] false] (.ps [] true):=by
  exact wk Tryz.func236 (.go 7 .fin) (aW (eL [] true))
theorem QN (w:TUnit) (r:List TUnit) (hl:r.length<2 ^ 20):kP 236 [.ls ((w::r).map aX)] (.ls ((w::r).map aX)):=by
  let q:=List.map aX (w::r);exact b7 Tryz.func236 (Mg 1 (Mz 3 (fun (nz0:((w::r).map aX:List AV) = [])=>Mw .abs (qz _ _ nz0)) (Mg 3 (M2 .apl (et (by exact qz _ _:List.map aX (w::r)≠ []) (fa (sz:=8) (f:=aX) (fun _=>by (rw [aC];rfl)) (w::r))) (by (refine aA (m:=2 ^ 21) ?_ ?_ ?_ <;> first | omega | (simp only [lM,lC] <;> omega)):small ((w::r).map aX).length 120=true) (Mg 0 (M2 (.fsl 0 [] 2 q) ti (eR (ax (0)) (c8 (f:=aX) (l:=w::r) (n:=q.length) (by (simp only [lM,lC] <;> omega):(w::r).length=((w::r).map aX).length)) (aK gN (w::r))) (Ml 2 (ib q (false) (aK gN (w::r))) (Mf (aW (aU q))))))))))
theorem B6 (l:List TUnit) (hl:l.length≤2 ^ 20):kP 236 [.ls (l.map aX)] (.ls (l.map aX)):=by
  cases l with
  | nil=>exact bw.ls0 (Gr.less Le.nils) (Gp.lessB (u:= .ls []) (by kernel_rfl))
  | cons w r=>exact QN w r (by simp only [lC] at hl;omega)
/-- The unit is found; its kids stay what they are. -/
theorem wB (g:Nat) (bs:List AV) (p:PId) (u u2:TUnit) (hA:aY [eU u,aZ p, .func (.func g) [] bs]=0) (hp:(az u.act p.a && (az u.item p.i && az u.n p.n))=true) (hl:u.kids.length≤2 ^ 20) (hd:kD g (.ptr 0 0 0 0::bs) (ae [dm u (.ls (u.kids.map aX)),tI p,zO]) (.tuple []) (ae [dm u2 (.ls (u2.kids.map aX)),tI p,zO])):kP 136 [eU u,aZ p, .func (.func g) [] bs] (eU u2):=by
  have hc:=B6 u.kids hl
  let q:= [iV p.a,iV p.i,iV p.n];exact b7 (ht:=(by assumption)) Tryz.func136 (Mg 5 (Mv (cA (d:=(Tryz.prog).underlying 23) (n:=3) (l:=(0,1)::(1,1)::(2,1):: []) (xs:= [iV u.act,iV u.item,iV u.n]) (ys:=q) (H:=ae [aw 8 false 0 [ab [iV u.act,iV u.item,iV u.n,iV u.kind,af u.label,aU (u.head.map aQ),aU (u.words.map aQ),aU (u.kids.map aX)]],aw 3 false 0 [ab q],aw 8 false 0 [ab [iV 0,iV 0,iV 0,iV 0,af [],aR,aR,aR]]]) rfl (bj (e:=az u.act p.a) rfl rfl rfl (bj (e:=az u.item p.i) rfl rfl rfl (da (e:=az u.n p.n) rfl rfl rfl rfl)))) (Mt hp (Mg 1 (Mp (hc) (Mg 2 (Me (hd) (Mg 1 (Mf (aW (ab [iV u2.act,iV u2.item,iV u2.n,iV u2.kind,af u2.label,aU (u2.head.map aQ),aU (u2.words.map aQ),aU (u2.kids.map aX)])))))))))))
/-- The unit is found; it has kids; in its own row something is done. -/
theorem TZ (g:Nat) (bs:List AV) (p:PId) (u u2:TUnit) (n2:Nat) (Z:Nat→List AV) (hA:aY [eU u,aZ p, .func (.func g) [] bs]=0) (hp:(az u.act p.a && (az u.item p.i && az u.n p.n))=true) (hl:u.kids.length≤2 ^ 20) (hne:u.kids≠ []) (hn2:u2.kids.length=n2) (hd : ∀ k,kD g (.ptr 0 0 0 0::bs) (ae [dm u (.slice 3 0 0 u.kids.length (some (u.kids.length+k))),tI p,zO,dn ((u.kids++List.replicate k bu).map aX)]) (.tuple []) (ae [dm u2 (.slice 3 0 0 n2 (some (u.kids.length+k))),tI p,zO,dn (u2.kids.map aX++Z k)])):kP 136 [eU u,aZ p, .func (.func g) [] bs] (eU u2):=by
  let q:= [ab [iV u.act,iV u.item,iV u.n,iV u.kind,af u.label,aU (u.head.map aQ),aU (u.words.map aQ),aU (u.kids.map aX)]];let q1:= [iV p.a,iV p.i,iV p.n];let q2:= [ab [iV 0,iV 0,iV 0,iV 0,af [],aR,aR,aR]];let q3:=List.map aX u2.kids;exact b7 (ht:=(by assumption)) Tryz.func136 (Mg 5 (Mv (cA (d:=(Tryz.prog).underlying 23) (n:=3) (l:=(0,1)::(1,1)::(2,1):: []) (xs:= [iV u.act,iV u.item,iV u.n]) (ys:=q1) (H:=ae [aw 8 false 0 q,aw 3 false 0 [ab q1],aw 8 false 0 q2]) rfl (bj (e:=az u.act p.a) rfl rfl rfl (bj (e:=az u.item p.i) rfl rfl rfl (da (e:=az u.n p.n) rfl rfl rfl rfl)))) (Mt hp (Mg 1 (Mq (Dw (u.kids) hne hl (aw 8 false 0 q) (aw 3 false 0 [ab q1]) (aw 8 false 0 q2)) fun y0 hy0=>Mg 2 (Me (hd y0) (M2 (.fza 0 7 3 [3,6] q3) (mu rt rt rt ti) (eR (ax (0)) (UX (xs:=List.map aX u2.kids) (ys:=Z y0) (n:=n2) (by (simp only [lM] <;> first | assumption | omega))) (aK gN (u2.kids))) (Mg 1 (Mf (aW (ab [iV u2.act,iV u2.item,iV u2.n,iV u2.kind,af u2.label,aU (u2.head.map aQ),aU (u2.words.map aQ),aU q3])))))))))))
noncomputable def gk (x:PWord):Bool:=aV (ao 100 (.ofNat x.text.length))
noncomputable def i7 (ws:List PWord):Bool:=ws.all gk && aV (ao 300 (.ofNat ws.length))
def RL (ws:List PWord) (x0:Nat × List PWord × Unit):Prop:=(ws).drop x0.1=x0.2.1∧ws.all gk=x0.2.1.all gk
noncomputable def Jo (ws:List PWord) (x0:Nat × List PWord × Unit):List AV × List AObj:=([AV.ls (ws.map aQ),nV x0.1], [])
theorem Eg (ws:List PWord) (hl:ws.length<2 ^ 60):kP 103 [.ls (ws.map aQ)] (.bool (i7 ws)):=by
  have rr0 : ∀ b',(h:(i7 ws)=b':=by simp only [i7,gk,aS,aV,bS, *])→(i7 ws)=b':=(fun _ h=>h);exact b7 Tryz.func103 (Mg 1 (ML (Nat × List PWord × Unit) [0,3] (Jo ws) (RL ws) (fun x=>x.2.1.length) (0,ws,()) (ax ((Jo ws) (0,ws,()))) (et (rfl:List.drop 0 (ws)=ws) (by rfl:(ws.all gk=ws.all gk))) (fun x0 hx0 nx0=>Mc x0.2.1 (fun hr0=>have lt0:=ai hx0.1 hr0;(have hj0:=aF (J:=fun r x=>ws.all gk=r.all gk) (a:=x0.2.2) hr0 hx0.2;(Mg 2 (Ml 6 (Le.len (f:=aQ) (l:=ws)) (Mg 0 (Mh lt0 (Mg 1 (Ml 18 (Le.len (f:=aQ) (l:=ws)) (Mg 1 (Mf (aq (rr0 (aV (ao 300 (Int.ofNat ws.length))))))))))))))) (fun w0 r0 hr0=>have lt0:=aD hx0.1 hr0;(have glt0:=aJ lt0;(have nt0:=ah (enc:=aQ) hx0.1 hr0;(have hj0:=aE (J:=fun r x=>ws.all gk=r.all gk) (a:=x0.2.2) hr0 hx0.2;(Mg 2 (Ml 6 (Le.len (f:=aQ) (l:=ws)) (Mg 0 (Mt lt0 (Mg 1 (Mx nt0 (Mg 3 (Mb (ao 100 (Int.ofNat (List.length w0.text))) (fun h0=>have gh0:=aJ h0;(Mg 0 (Mf (aq (rr0 (false)))))) (fun h0=>have gh0:=av h0;(Mg 1 (Ml 9 (Le.wr (x:=Int.ofNat x0.1+1) cq) (Mg 0 (Mf (nx0 (x0.1+1,r0,()) (et (ay hx0.1 hr0) (by simp only [gk,aS,aV,bS, *] at * : (ws.all gk=r0.all gk))) (aO hr0))))))))))))))))))))))
mutual
noncomputable def fp:TUnit→Bool
  | ⟨_,_,_,_,label,h,w,kids⟩=>aV (ao 30 (.ofNat label.length)) && i7 h && i7 w && wT kids
noncomputable def wT:List TUnit→Bool
  | []=>true
  | u::r=>fp u && wT r
end
theorem A5 : ∀ (l:List TUnit),wT l=l.all fp
  | []=>by rw [wT];rfl
  | u::r=>by rw [wT,A5 r];rfl
theorem A6 (u:TUnit):fp u=(aV (ao 30 (.ofNat u.label.length)) && i7 u.head && i7 u.words && u.kids.all fp):=by
  obtain ⟨a,b,c,d,e,f,g,h⟩:=u
  rw [fp,A5];rfl
def Ro (u:TUnit) (x0:Nat × List TUnit × Unit):Prop:=(u.kids).drop x0.1=x0.2.1∧u.kids.all fp=x0.2.1.all fp
noncomputable def Jj (u:TUnit) (x0:Nat × List TUnit × Unit):List AV × List AObj:=([AV.pptr [AV.agg [iV u.act,iV u.item,iV u.n,iV u.kind,AV.str u.label,AV.ls (u.head.map aQ),AV.ls (u.words.map aQ),AV.ls (u.kids.map aX)]] 0 0,nV x0.1], [])
theorem Nb : ∀ (u:TUnit),oq u→kP 59 [eU u] (.bool (fp u)):=by
  refine TUnit.ind fun u ih hf=>?_
  obtain ⟨f1,f2,f3,f4⟩:=nQ.1 hf
  have rr0 : ∀ b',(h:(fp u)=b':=by rw [A6];simp only [aS,aV,bS, *])→(fp u)=b':=(fun _ h=>h);exact b7 Tryz.func59 (Mg 6 (Mb (ao 30 (Int.ofNat (List.length u.label))) (fun h0=>have gh0:=aJ h0;(Mt h0 (Mt h0 (Mt h0 (M1 (.pk true) h0 (Mg 3 (Mf (aq (rr0 (false)))))))))) (fun h0=>have gh0:=av h0;(Mg 0 (Mh h0 (Mg 0 (Mh h0 (Mp (Eg (u.head) f1) (Mh h0 (Mg 0 (M1 (.pk false) h0 (Mg 0 (Mb (aV (i7 u.head)) (fun z=>have h1:(i7 u.head)=false:=(aI z);(Mt (ce h1) (Mt (ce h1) (Mt (ce h1) (M1 (.pk true) (ce h1) (Mg 1 (Mf (aq (rr0 (false)))))))))) (fun z=>have h1:(i7 u.head)=true:=(aL z);(Mg 0 (Mh (cJ h1) (Mg 0 (Mh (cJ h1) (Mp (Eg (u.words) f2) (Mh (cJ h1) (Mg 0 (M1 (.pk false) (cJ h1) (Mb (aV (i7 u.words)) (fun z=>have h2:(i7 u.words)=false:=(aI z);(Mg 0 (Mf (aq (rr0 (false)))))) (fun z=>have h2:(i7 u.words)=true:=(aL z);(Mg 0 (M1 (.frz 0 [1,3]) ti (ML (Nat × List TUnit × Unit) [1,3] (Jj u) (Ro u) (fun x=>x.2.1.length) (0,u.kids,()) (ax ((Jj u) (0,u.kids,()))) (et (rfl:List.drop 0 (u.kids)=u.kids) (by rfl:(u.kids.all fp=u.kids.all fp))) (fun x0 hx0 nx0=>Mc x0.2.1 (fun hr0=>have lt0:=ai hx0.1 hr0;(have hj0:=aF (J:=fun r x=>u.kids.all fp=r.all fp) (a:=x0.2.2) hr0 hx0.2;(Mg 3 (Ml 23 (Le.len (f:=aX) (l:=u.kids)) (Mg 0 (Mh lt0 (Mg 0 (Mf (aq (rr0 (true))))))))))) (fun w0 r0 hr0=>have lt0:=aD hx0.1 hr0;(have glt0:=aJ lt0;(have nt0:=(ah (enc:=aX) hx0.1 hr0).trans (congrArg some (aC w0));(have hj0:=aE (J:=fun r x=>u.kids.all fp=r.all fp) (a:=x0.2.2) hr0 hx0.2;(Mg 3 (Ml 23 (Le.len (f:=aX) (l:=u.kids)) (Mg 0 (Mt lt0 (Mg 2 (Mx nt0 (Mg 0 (Mp (ih w0 (by exact bJ hx0.1 hr0) (by exact f4 _ (bJ hx0.1 hr0))) (Mg 0 (Mn (fp w0) (fun h3=>Mg 0 (Mf (aq (rr0 (false))))) (fun h3=>Mg 1 (Ml 26 (Le.wr (x:=Int.ofNat x0.1+1) cq) (Mg 0 (Mf (nx0 (x0.1+1,r0,()) (et (ay hx0.1 hr0) (by simp only [aS,aV,bS, *] at * : (u.kids.all fp=r0.all fp))) (aO hr0))))))))))))))))))))))))))))))))))))))))))))))))

mutual
noncomputable def jA:TUnit→Int→Int→Int
  | ⟨_,_,_,_,_,_,_,kids⟩,deep,most=>match ao 20 deep with | true=>most+1 | false=>ig kids deep most 1
noncomputable def ig:List TUnit→Int→Int→Int→Int
  | [],_,_,n=>n
  | k::r,deep,most,n=>match ao most n with | true=>n | false=>ig r deep most (n+jA k (deep+1) (most - n))
end
theorem N2 (u:TUnit) (deep most:Int):jA u deep most=match ao 20 deep with | true=>most+1 | false=>ig u.kids deep most 1:=by
  obtain ⟨a,b,c,d,e,f,g,h⟩:=u;rw [jA];rfl
mutual
theorem Ee : ∀ (u:TUnit) (deep most:Int),0≤most→1≤jA u deep most∧jA u deep most≤most+1
  | ⟨_,_,_,_,_,_,_,kids⟩,deep,most,h=>by
    rw [jA]
    split
    · omega
    · exact Ef kids deep most 1 (by omega) (by omega)
theorem Ef : ∀ (l:List TUnit) (deep most n:Int),1≤n→n≤most+1→1≤ig l deep most n∧ig l deep most n≤most+1
  | [],_,_,n,h1,h2=>by rw [ig];omega
  | k::r,deep,most,n,h1,h2=>by
    rw [ig]
    split
    · omega
    · rename_i h
      have:=av h
      have:=Ee k (deep+1) (most - n) (by omega)
      exact Ef r deep most _ (by omega) (by omega)
end
def UN (u:TUnit) (deep:Int) (most:Int) (x0:Nat × List TUnit × Int):Prop:=(u.kids).drop x0.1=x0.2.1∧(1:Int)≤x0.2.2∧x0.2.2≤most+(1:Int)∧ig u.kids deep most (1:Int)=ig x0.2.1 deep most x0.2.2
noncomputable def N3 (u:TUnit) (deep:Int) (most:Int) (x0:Nat × List TUnit × Int):List AV × List AObj:=([iV deep,iV most,AV.pptr [AV.agg [iV u.act,iV u.item,iV u.n,iV u.kind,AV.str u.label,AV.ls (u.head.map aQ),AV.ls (u.words.map aQ),AV.ls (u.kids.map aX)]] 0 0,iV x0.2.2,nV x0.1], [])
theorem RI : ∀ (u:TUnit),oq u→∀ (deep most:Int),0≤deep→deep≤21→0≤most→most≤2 ^ 20→kP 58 [eU u,iV deep,iV most] (iV (jA u deep most)):=by
  refine TUnit.ind fun u ih hf deep most d1 d2 m1 m2=>?_
  obtain ⟨f1,f2,f3,f4⟩:=nQ.1 hf
  have rr0 : ∀ b',(h:(jA u deep most)=b':=by rw [N2];simp only [ig,aS,aV,bS, *])→(jA u deep most)=b':=(fun _ h=>h);exact b7 Tryz.func58 (Mg 3 (Mb (ao 20 deep) (fun h0=>have gh0:=aJ h0;(Mg 1 (Ml 12 (Le.wr (x:=most+1) cq) (Mg 0 (Mf (aj (k:= .i64) (rr0 (most+1)))))))) (fun h0=>have gh0:=av h0;(Mg 1 (M1 (.frz 0 [1,2,3,7,8]) ti (ML (Nat × List TUnit × Int) [1,2,3,7,8] (N3 u deep most) (UN u deep most) (fun x=>x.2.1.length) (0,u.kids,1) (ax ((N3 u deep most) (0,u.kids,1))) (et (rfl:List.drop 0 (u.kids)=u.kids) (by (omega):((1:Int)≤(1:Int)∧(1:Int)≤most+(1:Int)∧ig u.kids deep most (1:Int)=ig u.kids deep most (1:Int)))) (fun x0 hx0 nx0=>Mc x0.2.1 (fun hr0=>have lt0:=ai hx0.1 hr0;(have hj0:=aF (J:=fun r a=>(1:Int)≤a∧a≤most+(1:Int)∧ig u.kids deep most (1:Int)=ig r deep most a) (a:=x0.2.2) hr0 hx0.2;(Mg 3 (Ml 16 (Le.len (f:=aX) (l:=u.kids)) (Mg 1 (Mh lt0 (Mh lt0 (Mh lt0 (M1 (.pk false) lt0 (Mg 2 (Mf (aj (k:= .i64) (rr0 (x0.2.2)))))))))))))) (fun w0 r0 hr0=>have lt0:=aD hx0.1 hr0;(have glt0:=aJ lt0;(have nt0:=(ah (enc:=aX) hx0.1 hr0).trans (congrArg some (aC w0));(have hj0:=aE (J:=fun r a=>(1:Int)≤a∧a≤most+(1:Int)∧ig u.kids deep most (1:Int)=ig r deep most a) (a:=x0.2.2) hr0 hx0.2;(Mg 3 (Ml 16 (Le.len (f:=aX) (l:=u.kids)) (Mg 1 (Mt lt0 (Mg 0 (Mt lt0 (Mg 0 (Mt lt0 (Mg 0 (M1 (.pk true) lt0 (Mn (ao most x0.2.2) (fun h1=>have gh1:=av h1;(Mg 3 (Mx nt0 (Mg 2 (Ml 32 (Le.wr (x:=deep+1) cq) (Mg 2 (Ml 35 (Le.wr (x:=most - x0.2.2) cq) (Mp (ih w0 (by exact bJ hx0.1 hr0) (by exact f4 _ (bJ hx0.1 hr0)) (deep+1) (most - x0.2.2) (by omega) (by omega) (by omega) (by omega)) (have b2:=Ee (w0) (deep+1) (most - x0.2.2) (by omega);(Mg 0 (Ml 37 (Le.wr (x:=x0.2.2+jA w0 (deep+1) (most - x0.2.2)) cq) (Mg 2 (Ml 24 (Le.wr (x:=Int.ofNat x0.1+1) cq) (Mg 0 (Mf (nx0 (x0.1+1,r0,x0.2.2+jA w0 (deep+1) (most - x0.2.2)) (et (ay hx0.1 hr0) (by (refine ⟨by omega,by omega,?_⟩;first | rfl | rw [hj0.2.2,ig,h1]):((1:Int)≤x0.2.2+jA w0 (deep+(1:Int)) (most - x0.2.2)∧x0.2.2+jA w0 (deep+(1:Int)) (most - x0.2.2)≤most+(1:Int)∧ig u.kids deep most (1:Int)=ig r0 deep most (x0.2.2+jA w0 (deep+(1:Int)) (most - x0.2.2))))) (aO hr0))))))))))))))))) (fun h1=>have gh1:=aJ h1;(Mg 1 (Mf (aj (k:= .i64) (rr0 (x0.2.2))))))))))))))))))))))))))))
noncomputable def uv (u:TUnit) (most:Int):Bool:=aV (ao most (jA u 0 most)) && fp u
theorem Kd (u:TUnit) (most:Int) (hf:oq u) (m1:0≤most) (m2:most≤2 ^ 20):kP 26 [eU u,iV most] (.bool (uv u most)):=by
  have rr0 : ∀ b',(h:(uv u most)=b':=by simp only [uv,aS,aV,bS, *])→(uv u most)=b':=(fun _ h=>h);exact b7 Tryz.func26 (Mg 3 (Mp (RI u hf (0) most (by omega) (by omega) m1 m2) (Mg 2 (Mn (ao most (jA u 0 most)) (fun h0=>(Mg 0 (Mt (ce h0) (Mp (Nb u hf) (M1 (.pk true) (ce h0) (Mg 0 (Mf (aq (rr0 (fp u)))))))))) (fun h0=>(Mh (cJ h0) (M1 (.pk false) (cJ h0) (Mg 0 (Mf (aq (rr0 (false))))))))))))
noncomputable def j0 (s:aP):Bool:=aV (ao 100 (.ofNat s.length))
noncomputable def jS (s:PStep):Bool:=aV (ao 100 (.ofNat s.label.length))
noncomputable def wD (x:PItem):Bool:=
  aV (ao 12 (.ofNat x.at_.length)) && aV (ao 12 (.ofNat x.to.length)) && aV (ao 300 (.ofNat x.old.length)) && aV (ao 300 (.ofNat x.new.length)) && aV (ao 100 (.ofNat x.label.length)) && aV (ao 100 (.ofNat x.for_.length))
  && aV (ao 100 (.ofNat x.start.event.length)) && aV (ao 100 (.ofNat x.event.length)) && aV (ao 2 (.ofNat x.by_.length)) && uv x.unit 30
noncomputable def dpB (y:PItem):Bool:=ao 0 (.ofNat y.by_.length) && ao 0 (.ofNat (gD y.by_ 0).by_.length)
mutual
noncomputable def mJ:PItem→Bool
  | ⟨k,a,t,w,nn,u,o,n,lb,fo,st,ac,it,dy,ev,by_⟩=>wD ⟨k,a,t,w,nn,u,o,n,lb,fo,st,ac,it,dy,ev,by_⟩ && (o.all j0 && (n.all j0 && (a.all jS && (t.all jS && F4 by_))))
noncomputable def F4:List PItem→Bool
  | []=>true
  | u::r=>(aV (dpB u) && mJ u) && F4 r
end
noncomputable def ph (y:PItem):Bool:=aV (dpB y) && mJ y
theorem F3 : ∀ (l:List PItem),F4 l=l.all ph
  | []=>by rw [F4];rfl
  | u::r=>by rw [F4,F3 r];rfl
theorem Ke (x:PItem):mJ x=(wD x && (x.old.all j0 && (x.new.all j0 && (x.at_.all jS && (x.to.all jS && x.by_.all ph))))):=by
  obtain ⟨k,a,t,w,nn,u,o,n,lb,fo,st,ac,it,dy,ev,by_⟩:=x
  rw [mJ,F3];rfl
def VE (x:PItem) (x0:Nat × List aP × Unit):Prop:=(x.old).drop x0.1=x0.2.1∧x.old.all j0=x0.2.1.all j0
noncomputable def Qx (x:PItem) (x0:Nat × List aP × Unit):List AV × List AObj:=([AV.pptr [AV.agg [iV x.kind,AV.ls (x.at_.map ak),AV.ls (x.to.map ak),iV x.where_,iV x.nth_,iV x.unit.act,iV x.unit.item,iV x.unit.n,iV x.unit.kind,AV.str x.unit.label,AV.ls (x.unit.head.map aQ),AV.ls (x.unit.words.map aQ),AV.ls (x.unit.kids.map aX),AV.ls (x.old.map lT),AV.ls (x.new.map lT),AV.str x.label,AV.str x.for_,iV x.start.kind,iV x.start.day,AV.str x.start.event,iV x.act,iV x.item,iV x.day,AV.str x.event,AV.ls (x.by_.map MB)]] 0 0,nV x0.1], [])
def VD (x:PItem) (x1:Nat × List aP × Unit):Prop:=(x.new).drop x1.1=x1.2.1∧x.new.all j0=x1.2.1.all j0
noncomputable def Qz (x:PItem) (x1:Nat × List aP × Unit):List AV × List AObj:=([AV.pptr [AV.agg [iV x.kind,AV.ls (x.at_.map ak),AV.ls (x.to.map ak),iV x.where_,iV x.nth_,iV x.unit.act,iV x.unit.item,iV x.unit.n,iV x.unit.kind,AV.str x.unit.label,AV.ls (x.unit.head.map aQ),AV.ls (x.unit.words.map aQ),AV.ls (x.unit.kids.map aX),AV.ls (x.old.map lT),AV.ls (x.new.map lT),AV.str x.label,AV.str x.for_,iV x.start.kind,iV x.start.day,AV.str x.start.event,iV x.act,iV x.item,iV x.day,AV.str x.event,AV.ls (x.by_.map MB)]] 0 0,nV x1.1], [])
def VC (x:PItem) (x2:Nat × List PStep × Unit):Prop:=(x.at_).drop x2.1=x2.2.1∧x.at_.all jS=x2.2.1.all jS
noncomputable def Qq (x:PItem) (x2:Nat × List PStep × Unit):List AV × List AObj:=([AV.pptr [AV.agg [iV x.kind,AV.ls (x.at_.map ak),AV.ls (x.to.map ak),iV x.where_,iV x.nth_,iV x.unit.act,iV x.unit.item,iV x.unit.n,iV x.unit.kind,AV.str x.unit.label,AV.ls (x.unit.head.map aQ),AV.ls (x.unit.words.map aQ),AV.ls (x.unit.kids.map aX),AV.ls (x.old.map lT),AV.ls (x.new.map lT),AV.str x.label,AV.str x.for_,iV x.start.kind,iV x.start.day,AV.str x.start.event,iV x.act,iV x.item,iV x.day,AV.str x.event,AV.ls (x.by_.map MB)]] 0 0,nV x2.1], [])
def VB (x:PItem) (x3:Nat × List PStep × Unit):Prop:=(x.to).drop x3.1=x3.2.1∧x.to.all jS=x3.2.1.all jS
noncomputable def QU (x:PItem) (x3:Nat × List PStep × Unit):List AV × List AObj:=([AV.pptr [AV.agg [iV x.kind,AV.ls (x.at_.map ak),AV.ls (x.to.map ak),iV x.where_,iV x.nth_,iV x.unit.act,iV x.unit.item,iV x.unit.n,iV x.unit.kind,AV.str x.unit.label,AV.ls (x.unit.head.map aQ),AV.ls (x.unit.words.map aQ),AV.ls (x.unit.kids.map aX),AV.ls (x.old.map lT),AV.ls (x.new.map lT),AV.str x.label,AV.str x.for_,iV x.start.kind,iV x.start.day,AV.str x.start.event,iV x.act,iV x.item,iV x.day,AV.str x.event,AV.ls (x.by_.map MB)]] 0 0,nV x3.1], [])
def VA (x:PItem) (x4:Nat × List PItem × Unit):Prop:=(x.by_).drop x4.1=x4.2.1∧x.by_.all ph=x4.2.1.all ph
noncomputable def QY (x:PItem) (x4:Nat × List PItem × Unit):List AV × List AObj:=([AV.pptr [AV.agg [iV x.kind,AV.ls (x.at_.map ak),AV.ls (x.to.map ak),iV x.where_,iV x.nth_,iV x.unit.act,iV x.unit.item,iV x.unit.n,iV x.unit.kind,AV.str x.unit.label,AV.ls (x.unit.head.map aQ),AV.ls (x.unit.words.map aQ),AV.ls (x.unit.kids.map aX),AV.ls (x.old.map lT),AV.ls (x.new.map lT),AV.str x.label,AV.str x.for_,iV x.start.kind,iV x.start.day,AV.str x.start.event,iV x.act,iV x.item,iV x.day,AV.str x.event,AV.ls (x.by_.map MB)]] 0 0,nV x4.1], [])
theorem Tb : ∀ (x:PItem),qK x→kP 28 [eI x] (.bool (mJ x)):=by
  refine PItem.ind fun x ih hf=>?_
  obtain ⟨f1,f2,f3,f4,f5,f6,f7⟩:=sn.1 hf
  have hu:kP 26 [eU x.unit,iV 30] (.bool (uv x.unit 30)):=Kd x.unit 30 f6 (by omega) (by omega)
  have rr0 : ∀ b',(h:(mJ x)=b':=by rw [Ke,wD];simp only [ph,dpB,j0,jS,aS,aV,bS, *])→(mJ x)=b':=(fun _ h=>h);exact b7 Tryz.func28 (Mg 4 (Ml 10 (Le.len (f:=ak) (l:=x.at_)) (Mg 1 (Mb (ao 12 (Int.ofNat x.at_.length)) (fun h0=>have gh0:=aJ h0;(Mt h0 (Mt h0 (Mt h0 (M1 (.pk true) h0 (Mg 17 (Mf (aq (rr0 (false)))))))))) (fun h0=>have gh0:=av h0;(Mg 0 (Mh h0 (Mg 0 (Mh h0 (Mg 0 (Ml 15 (Le.len (f:=ak) (l:=x.to)) (Mh h0 (Mg 0 (M1 (.pk false) h0 (Mg 0 (Mb (ao 12 (Int.ofNat x.to.length)) (fun h1=>have gh1:=aJ h1;(Mt h1 (Mt h1 (Mt h1 (M1 (.pk true) h1 (Mg 15 (Mf (aq (rr0 (false)))))))))) (fun h1=>have gh1:=av h1;(Mg 0 (Mh h1 (Mg 0 (Mh h1 (Mg 0 (Ml 21 (Le.len (f:=lT) (l:=x.old)) (Mh h1 (Mg 0 (M1 (.pk false) h1 (Mg 0 (Mb (ao 300 (Int.ofNat x.old.length)) (fun h2=>have gh2:=aJ h2;(Mt h2 (Mt h2 (Mt h2 (M1 (.pk true) h2 (Mg 13 (Mf (aq (rr0 (false)))))))))) (fun h2=>have gh2:=av h2;(Mg 0 (Mh h2 (Mg 0 (Mh h2 (Mg 0 (Ml 27 (Le.len (f:=lT) (l:=x.new)) (Mh h2 (Mg 0 (M1 (.pk false) h2 (Mg 0 (Mb (ao 300 (Int.ofNat x.new.length)) (fun h3=>have gh3:=aJ h3;(Mt h3 (Mt h3 (Mt h3 (M1 (.pk true) h3 (Mg 11 (Mf (aq (rr0 (false)))))))))) (fun h3=>have gh3:=av h3;(Mg 0 (Mh h3 (Mg 0 (Mh h3 (Mg 0 (Mh h3 (Mg 0 (M1 (.pk false) h3 (Mg 0 (Mb (ao 100 (Int.ofNat (List.length x.label))) (fun h4=>have gh4:=aJ h4;(Mt h4 (Mt h4 (Mt h4 (M1 (.pk true) h4 (Mg 9 (Mf (aq (rr0 (false)))))))))) (fun h4=>have gh4:=av h4;(Mg 0 (Mh h4 (Mg 0 (Mh h4 (Mg 0 (Mh h4 (Mg 0 (M1 (.pk false) h4 (Mg 0 (Mb (ao 100 (Int.ofNat (List.length x.for_))) (fun h5=>have gh5:=aJ h5;(Mt h5 (Mt h5 (Mt h5 (Mt h5 (M1 (.pk true) h5 (Mg 7 (Mf (aq (rr0 (false))))))))))) (fun h5=>have gh5:=av h5;(Mg 0 (Mh h5 (Mg 0 (Mh h5 (Mg 0 (Mh h5 (Mg 0 (Mh h5 (Mg 0 (M1 (.pk false) h5 (Mg 0 (Mb (ao 100 (Int.ofNat (List.length x.start.event))) (fun h6=>have gh6:=aJ h6;(Mt h6 (Mt h6 (Mt h6 (M1 (.pk true) h6 (Mg 5 (Mf (aq (rr0 (false)))))))))) (fun h6=>have gh6:=av h6;(Mg 0 (Mh h6 (Mg 0 (Mh h6 (Mg 0 (Mh h6 (Mg 0 (M1 (.pk false) h6 (Mg 0 (Mb (ao 100 (Int.ofNat (List.length x.event))) (fun h7=>have gh7:=aJ h7;(Mt h7 (Mt h7 (Mt h7 (M1 (.pk true) h7 (Mg 3 (Mf (aq (rr0 (false)))))))))) (fun h7=>have gh7:=av h7;(Mg 0 (Mh h7 (Mg 0 (Mh h7 (Mg 0 (Ml 58 (Le.len (f:=MB) (l:=x.by_)) (Mh h7 (Mg 0 (M1 (.pk false) h7 (Mg 0 (Mb (ao 2 (Int.ofNat x.by_.length)) (fun h8=>have gh8:=aJ h8;(Mt h8 (Mt h8 (Mt h8 (M1 (.pk true) h8 (Mg 1 (Mf (aq (rr0 (false)))))))))) (fun h8=>have gh8:=av h8;(Mg 0 (Mh h8 (Mg 0 (Mh h8 (Mp (hu) (Mh h8 (Mg 0 (M1 (.pk false) h8 (Mb (aV (uv x.unit 30)) (fun z=>have h9:(uv x.unit 30)=false:=(aI z);(Mg 0 (Mf (aq (rr0 (false)))))) (fun z=>have h9:(uv x.unit 30)=true:=(aL z);(Mg 0 (M1 (.frz 0 [1,3]) ti (ML (Nat × List aP × Unit) [1,3] (Qx x) (VE x) (fun x=>x.2.1.length) (0,x.old,()) (ax ((Qx x) (0,x.old,()))) (et (rfl:List.drop 0 (x.old)=x.old) (by rfl:(x.old.all j0=x.old.all j0))) (fun x0 hx0 nx0=>Mc x0.2.1 (fun hr0=>have lt0:=ai hx0.1 hr0;(have hj0:=aF (J:=fun r x_1=>x.old.all j0=r.all j0) (a:=x0.2.2) hr0 hx0.2;(Mg 3 (Ml 70 (Le.len (f:=lT) (l:=x.old)) (Mg 0 (Mh lt0 (Mg 0 (ML (Nat × List aP × Unit) [1,4] (Qz x) (VD x) (fun x=>x.2.1.length) (0,x.new,()) (ax ((Qz x) (0,x.new,()))) (et (rfl:List.drop 0 (x.new)=x.new) (by rfl:(x.new.all j0=x.new.all j0))) (fun x1 hx1 nx1=>Mc x1.2.1 (fun hr1=>have lt1:=ai hx1.1 hr1;(have hj1:=aF (J:=fun r x_1=>x.new.all j0=r.all j0) (a:=x1.2.2) hr1 hx1.2;(Mg 3 (Ml 84 (Le.len (f:=lT) (l:=x.new)) (Mg 0 (Mh lt1 (Mg 0 (ML (Nat × List PStep × Unit) [1,5] (Qq x) (VC x) (fun x=>x.2.1.length) (0,x.at_,()) (ax ((Qq x) (0,x.at_,()))) (et (rfl:List.drop 0 (x.at_)=x.at_) (by rfl:(x.at_.all jS=x.at_.all jS))) (fun x2 hx2 nx2=>Mc x2.2.1 (fun hr2=>have lt2:=ai hx2.1 hr2;(have hj2:=aF (J:=fun r x_1=>x.at_.all jS=r.all jS) (a:=x2.2.2) hr2 hx2.2;(Mg 3 (Ml 98 (Le.len (f:=ak) (l:=x.at_)) (Mg 0 (Mh lt2 (Mg 0 (ML (Nat × List PStep × Unit) [1,6] (QU x) (VB x) (fun x=>x.2.1.length) (0,x.to,()) (ax ((QU x) (0,x.to,()))) (et (rfl:List.drop 0 (x.to)=x.to) (by rfl:(x.to.all jS=x.to.all jS))) (fun x3 hx3 nx3=>Mc x3.2.1 (fun hr3=>have lt3:=ai hx3.1 hr3;(have hj3:=aF (J:=fun r x_1=>x.to.all jS=r.all jS) (a:=x3.2.2) hr3 hx3.2;(Mg 3 (Ml 113 (Le.len (f:=ak) (l:=x.to)) (Mg 0 (Mh lt3 (Mg 0 (ML (Nat × List PItem × Unit) [1,7] (QY x) (VA x) (fun x=>x.2.1.length) (0,x.by_,()) (ax ((QY x) (0,x.by_,()))) (et (rfl:List.drop 0 (x.by_)=x.by_) (by rfl:(x.by_.all ph=x.by_.all ph))) (fun x4 hx4 nx4=>Mc x4.2.1 (fun hr4=>have lt4:=ai hx4.1 hr4;(have hj4:=aF (J:=fun r x_1=>x.by_.all ph=r.all ph) (a:=x4.2.2) hr4 hx4.2;(Mg 3 (Ml 128 (Le.len (f:=MB) (l:=x.by_)) (Mg 0 (Mh lt4 (Mg 0 (Mf (aq (rr0 (true))))))))))) (fun w4 r4 hr4=>have lt4:=aD hx4.1 hr4;(have glt4:=aJ lt4;(have nt4:=(ah (enc:=MB) hx4.1 hr4).trans (congrArg some (fV w4));(have hj4:=aE (J:=fun r x_1=>x.by_.all ph=r.all ph) (a:=x4.2.2) hr4 hx4.2;(Mg 3 (Ml 128 (Le.len (f:=MB) (l:=x.by_)) (Mg 0 (Mt lt4 (Mg 2 (Mx nt4 (Mg 2 (Ml 138 (Le.len (f:=MB) (l:=w4.by_)) (Mg 1 (Mb (ao 0 (Int.ofNat w4.by_.length)) (fun h10=>have gh10:=aJ h10;(Mg 0 (Mt h10 (Mg 0 (Mt h10 (Mg 0 (Mt h10 (Mx nt4 (Mt h10 (Mg 0 (Mt h10 (Mg 0 (Mt h10 (Mx ((cj MB (by (simp only [oN,lM,lS] at *;omega):0<(w4.by_).length)).trans (congrArg some (fV _))) (Mt h10 (Mg 0 (Mt h10 (Mg 0 (Mt h10 (Mg 0 (Ml 150 (Le.len (f:=MB) (l:=(gD w4.by_ 0).by_)) (Mt h10 (Mg 0 (M1 (.pk true) h10 (Mg 0 (Mb (ao 0 (Int.ofNat (gD w4.by_ 0).by_.length)) (fun h11=>have gh11:=aJ h11;(Mt h11 (Mt h11 (Mt h11 (Mt h11 (Mt h11 (Mt h11 (M1 (.pk true) h11 (Mg 1 (Mf (aq (rr0 (false))))))))))))) (fun h11=>have gh11:=av h11;(Mg 0 (Mh h11 (Mg 0 (Mh h11 (Mg 0 (Mh h11 (Mx nt4 (Mh h11 (Mg 0 (Mh h11 (Mp (ih w4 (by exact bJ hx4.1 hr4) (by exact f7 _ (bJ hx4.1 hr4))) (Mh h11 (Mg 0 (M1 (.pk false) h11 (Mn (mJ w4) (fun h12=>Mg 0 (Mf (aq (rr0 (false))))) (fun h12=>Mg 1 (Ml 131 (Le.wr (x:=Int.ofNat x4.1+1) cq) (Mg 0 (Mf (nx4 (x4.1+1,r4,()) (et (ay hx4.1 hr4) (by simp only [ph,dpB,aS,aV,bS, *] at * : (x.by_.all ph=r4.all ph))) (aO hr4)))))))))))))))))))))))))))))))))))))))))))))))) (fun h10=>have gh10:=av h10;(Mh h10 (Mh h10 (Mh h10 (Mh h10 (Mh h10 (Mh h10 (Mh h10 (Mh h10 (Mh h10 (Mh h10 (M1 (.pk false) h10 (Mg 3 (Mx nt4 (Mg 0 (Mp (ih w4 (by exact bJ hx4.1 hr4) (by exact f7 _ (bJ hx4.1 hr4))) (Mg 1 (Mn (mJ w4) (fun h13=>Mg 0 (Mf (aq (rr0 (false))))) (fun h13=>Mg 1 (Ml 131 (Le.wr (x:=Int.ofNat x4.1+1) cq) (Mg 0 (Mf (nx4 (x4.1+1,r4,()) (et (ay hx4.1 hr4) (by simp only [ph,dpB,aS,aV,bS, *] at * : (x.by_.all ph=r4.all ph))) (aO hr4))))))))))))))))))))))))))))))))))))))))))))))) (fun w3 r3 hr3=>have lt3:=aD hx3.1 hr3;(have glt3:=aJ lt3;(have nt3:=ah (enc:=ak) hx3.1 hr3;(have hj3:=aE (J:=fun r x_1=>x.to.all jS=r.all jS) (a:=x3.2.2) hr3 hx3.2;(Mg 3 (Ml 113 (Le.len (f:=ak) (l:=x.to)) (Mg 0 (Mt lt3 (Mg 2 (Mx nt3 (Mg 3 (Mb (ao 100 (Int.ofNat (List.length w3.label))) (fun h14=>have gh14:=aJ h14;(Mg 0 (Mf (aq (rr0 (false)))))) (fun h14=>have gh14:=av h14;(Mg 1 (Ml 116 (Le.wr (x:=Int.ofNat x3.1+1) cq) (Mg 0 (Mf (nx3 (x3.1+1,r3,()) (et (ay hx3.1 hr3) (by simp only [jS,aS,aV,bS, *] at * : (x.to.all jS=r3.all jS))) (aO hr3)))))))))))))))))))))))))))) (fun w2 r2 hr2=>have lt2:=aD hx2.1 hr2;(have glt2:=aJ lt2;(have nt2:=ah (enc:=ak) hx2.1 hr2;(have hj2:=aE (J:=fun r x_1=>x.at_.all jS=r.all jS) (a:=x2.2.2) hr2 hx2.2;(Mg 3 (Ml 98 (Le.len (f:=ak) (l:=x.at_)) (Mg 0 (Mt lt2 (Mg 2 (Mx nt2 (Mg 3 (Mb (ao 100 (Int.ofNat (List.length w2.label))) (fun h15=>have gh15:=aJ h15;(Mg 0 (Mf (aq (rr0 (false)))))) (fun h15=>have gh15:=av h15;(Mg 1 (Ml 101 (Le.wr (x:=Int.ofNat x2.1+1) cq) (Mg 0 (Mf (nx2 (x2.1+1,r2,()) (et (ay hx2.1 hr2) (by simp only [jS,aS,aV,bS, *] at * : (x.at_.all jS=r2.all jS))) (aO hr2)))))))))))))))))))))))))))) (fun w1 r1 hr1=>have lt1:=aD hx1.1 hr1;(have glt1:=aJ lt1;(have nt1:=ah (enc:=lT) hx1.1 hr1;(have hj1:=aE (J:=fun r x_1=>x.new.all j0=r.all j0) (a:=x1.2.2) hr1 hx1.2;(Mg 3 (Ml 84 (Le.len (f:=lT) (l:=x.new)) (Mg 0 (Mt lt1 (Mg 2 (Mx nt1 (Mg 2 (Mb (ao 100 (Int.ofNat (List.length w1))) (fun h16=>have gh16:=aJ h16;(Mg 0 (Mf (aq (rr0 (false)))))) (fun h16=>have gh16:=av h16;(Mg 1 (Ml 87 (Le.wr (x:=Int.ofNat x1.1+1) cq) (Mg 0 (Mf (nx1 (x1.1+1,r1,()) (et (ay hx1.1 hr1) (by simp only [j0,aS,aV,bS, *] at * : (x.new.all j0=r1.all j0))) (aO hr1)))))))))))))))))))))))))))) (fun w0 r0 hr0=>have lt0:=aD hx0.1 hr0;(have glt0:=aJ lt0;(have nt0:=ah (enc:=lT) hx0.1 hr0;(have hj0:=aE (J:=fun r x_1=>x.old.all j0=r.all j0) (a:=x0.2.2) hr0 hx0.2;(Mg 3 (Ml 70 (Le.len (f:=lT) (l:=x.old)) (Mg 0 (Mt lt0 (Mg 2 (Mx nt0 (Mg 2 (Mb (ao 100 (Int.ofNat (List.length w0))) (fun h17=>have gh17:=aJ h17;(Mg 0 (Mf (aq (rr0 (false)))))) (fun h17=>have gh17:=av h17;(Mg 1 (Ml 73 (Le.wr (x:=Int.ofNat x0.1+1) cq) (Mg 0 (Mf (nx0 (x0.1+1,r0,()) (et (ay hx0.1 hr0) (by simp only [j0,aS,aV,bS, *] at * : (x.old.all j0=r0.all j0))) (aO hr0))))))))))))))))))))))))))))))))))))))))))))))))))))))))))))))))))))))))))))))))))))))))))))))))))))))))))))))))))))))))))))))))))))
def XJ (l:aP) (g:Nat) (p:UInt8→Bool) (x0:Nat × List UInt8 × Unit):Prop:=(l).drop x0.1=x0.2.1∧aT p l (0:Nat)=aT p x0.2.1 (List.length l - x0.2.1.length)
noncomputable def Ud (l:aP) (g:Nat) (p:UInt8→Bool) (x0:Nat × List UInt8 × Unit):List AV × List AObj:=([AV.ls (l.map mg),AV.func (Fn.func g) [] [],nV (List.length l),nV x0.1], [])
theorem Y8 (l:aP) (g:Nat) (p:UInt8→Bool) (hp : ∀ s,s∈l→kP g [.int .u8 (.ofNat s.toNat)] (.bool (p s))) (hl:l.length<2 ^ 40):kP 383 [.ls (l.map mg), .func (.func g) [] []] (iV (aT p l 0)):=by
  have rr0 : ∀ b',(h:(aT p l 0)=b':=by first | exact lK hx0.1 hr0 hj0 (by assumption) | exact hj0)→(aT p l 0)=b':=(fun _ h=>h);exact b7 Tryz.func383 (Mg 2 (Ml 7 (Le.len (f:=mg) (l:=l)) (Mg 0 (ML (Nat × List UInt8 × Unit) [0,1,7,8] (Ud l g p) (XJ l g p) (fun x=>x.2.1.length) (0,l,()) (ax ((Ud l g p) (0,l,()))) (et (rfl:List.drop 0 (l)=l) (by (exact lc):(aT p l (0:Nat)=aT p l (List.length l - List.length l)))) (fun x0 hx0 nx0=>Mc x0.2.1 (fun hr0=>have lt0:=ai hx0.1 hr0;(have hj0:=aF (J:=fun r x=>aT p l (0:Nat)=aT p r (List.length l - r.length)) (a:=x0.2.2) hr0 hx0.2;(Mg 0 (Mh lt0 (Mg 0 (Mf (aj (k:= .i64) (rr0 (-1))))))))) (fun w0 r0 hr0=>have lt0:=aD hx0.1 hr0;(have glt0:=aJ lt0;(have nt0:=ah (enc:=mg) hx0.1 hr0;(have hj0:=aE (J:=fun r x=>aT p l (0:Nat)=aT p r (List.length l - r.length)) (a:=x0.2.2) hr0 hx0.2;(Mg 0 (Mt lt0 (Mg 4 (Mx nt0 (Mg 0 (Mp (hp w0 (by exact bJ hx0.1 hr0)) (Mb (p w0) (fun h0=>Mg 1 (Mf (aj (k:= .i64) (rr0 (Int.ofNat x0.1))))) (fun h0=>Mg 0 (Ml 18 (Le.wr (x:=Int.ofNat x0.1+1) cq) (Mg 0 (Mf (nx0 (x0.1+1,r0,()) (et (ay hx0.1 hr0) (by exact jL hx0.1 hr0 hj0 (by assumption):(aT p l (0:Nat)=aT p r0 (List.length l - r0.length)))) (aO hr0))))))))))))))))))))))
theorem ZV (l:aP) (g:Nat) (p:UInt8→Bool) (hp : ∀ s,s∈l→kP g [.int .u8 (.ofNat s.toNat)] (.bool (p s))) (hl:l.length<2 ^ 40):kP 361 [.ls (l.map mg), .func (.func g) [] []] (.bool (l.any p)):=by
  have h:=Y8 l g p hp hl
  have rr0 : ∀ b',(h:(List.any l p)=b':=by (rw [kh];simp only [aS,aV,bS,qU]))→(List.any l p)=b':=(fun _ h=>h);exact b7 Tryz.func361 (Mg 2 (Mp (h) (Mg 1 (Mf (aq (rr0 (aV (ao (aT p l 0) 0))))))))
theorem Nc (c:UInt8):kP 360 [.int .u8 (.ofNat c.toNat)] (.bool (aV (AW 33 126 c))):=by
  have rr0 : ∀ b',(h:(aV (AW 33 126 c))=b':=by (simp only [AW,aS,aV,bS,qU, *]))→(aV (AW 33 126 c))=b':=(fun _ h=>h);exact b7 Tryz.func360 (Mg 3 (Mb (ao (Int.ofNat c.toNat) 33) (fun h0=>(Mt h0 (M1 (.pk true) h0 (Mg 0 (Mf (aq (rr0 (true)))))))) (fun h0=>(Mg 0 (Mh h0 (Mg 0 (M1 (.pk false) h0 (Mg 0 (Mf (aq (rr0 (ao 126 (Int.ofNat c.toNat)))))))))))))
theorem Rr (s:aP) (hs:s.length≤2 ^ 39):kP 313 [.str s] (.bool (gh s)):=by
  have h:=ZV s 360 _ (fun c _=>Nc c) (by omega)
  have rr0 : ∀ b',(h:(gh s)=b':=by first | (simp only [gh,aS,aV,bS, *];done) | (rw [gh,Qm,List.all_eq_not_any_not];simp only [CI,aS,aV,bS, *] at *))→(gh s)=b':=(fun _ h=>h);let q:=List.map mg s;exact b7 Tryz.func313 (Mg 4 (Mb (aV (dS s (ByteArray.mk #[]).data.toList)) (fun z=>have h0:(dS s (ByteArray.mk #[]).data.toList)=false:=(aI z);(Mg 0 (Mt (ce h0) (Mg 0 (Mt (ce h0) (Mg 0 (M1 (.pk true) (ce h0) (Mg 0 (Mn (ao 24 (Int.ofNat (List.length s))) (fun h1=>(Mg 0 (Mt (ce h1) (Mv (TC (s:=s) (H:=ae []) (by omega:(s).length≤2 ^ 40)) (Mt (ce h1) (Mg 0 (Mt (ce h1) (Mp (bw.onArgs (.cons (ib q _ (aK Ul (s))) (.cons (aW _) .nil)) (h):kP 361 [eL q false,bg (bf 360) [] []] _) (Mt (ce h1) (Mg 0 (M1 (.pk true) (ce h1) (Mg 0 (Mf (aq (rr0 (aV (List.any s fun c=>aV (AW 33 126 c)))))))))))))))))) (fun h1=>(Mh (cJ h1) (Mh (cJ h1) (Mh (cJ h1) (Mh (cJ h1) (M1 (.pk false) (cJ h1) (Mg 0 (Mf (aq (rr0 (false)))))))))))))))))))) (fun z=>have h0:(dS s (ByteArray.mk #[]).data.toList)=true:=(aL z);(Mh (cJ h0) (Mh (cJ h0) (M1 (.pk false) (cJ h0) (Mg 2 (Mf (aq (rr0 (false)))))))))))
def XW (l:List aP) (g:Nat) (p:aP→Bool) (x0:Nat × List aP × Unit):Prop:=(l).drop x0.1=x0.2.1∧aT p l (0:Nat)=aT p x0.2.1 (l.length - x0.2.1.length)
noncomputable def Uc (l:List aP) (g:Nat) (p:aP→Bool) (x0:Nat × List aP × Unit):List AV × List AObj:=([AV.ls (l.map lT),AV.func (Fn.func g) [] [],nV l.length,nV x0.1], [])
theorem Y7 (l:List aP) (g:Nat) (p:aP→Bool) (hp : ∀ s,s∈l→kP g [.str s] (.bool (p s))) (hl:l.length<2 ^ 40):kP 359 [.ls (l.map lT), .func (.func g) [] []] (iV (aT p l 0)):=by
  have rr0 : ∀ b',(h:(aT p l 0)=b':=by first | exact lK hx0.1 hr0 hj0 (by assumption) | exact hj0)→(aT p l 0)=b':=(fun _ h=>h);exact b7 Tryz.func359 (Mg 2 (Ml 7 (Le.len (f:=lT) (l:=l)) (Mg 0 (ML (Nat × List aP × Unit) [0,1,7,8] (Uc l g p) (XW l g p) (fun x=>x.2.1.length) (0,l,()) (ax ((Uc l g p) (0,l,()))) (et (rfl:List.drop 0 (l)=l) (by (exact lc):(aT p l (0:Nat)=aT p l (l.length - l.length)))) (fun x0 hx0 nx0=>Mc x0.2.1 (fun hr0=>have lt0:=ai hx0.1 hr0;(have hj0:=aF (J:=fun r x=>aT p l (0:Nat)=aT p r (l.length - r.length)) (a:=x0.2.2) hr0 hx0.2;(Mg 0 (Mh lt0 (Mg 0 (Mf (aj (k:= .i64) (rr0 (-1))))))))) (fun w0 r0 hr0=>have lt0:=aD hx0.1 hr0;(have glt0:=aJ lt0;(have nt0:=ah (enc:=lT) hx0.1 hr0;(have hj0:=aE (J:=fun r x=>aT p l (0:Nat)=aT p r (l.length - r.length)) (a:=x0.2.2) hr0 hx0.2;(Mg 0 (Mt lt0 (Mg 4 (Mx nt0 (Mg 0 (Mp (hp w0 (by exact bJ hx0.1 hr0)) (Mb (p w0) (fun h0=>Mg 1 (Mf (aj (k:= .i64) (rr0 (Int.ofNat x0.1))))) (fun h0=>Mg 0 (Ml 18 (Le.wr (x:=Int.ofNat x0.1+1) cq) (Mg 0 (Mf (nx0 (x0.1+1,r0,()) (et (ay hx0.1 hr0) (by exact jL hx0.1 hr0 hj0 (by assumption):(aT p l (0:Nat)=aT p r0 (l.length - r0.length)))) (aO hr0))))))))))))))))))))))
theorem ZK (l:List aP) (g:Nat) (p:aP→Bool) (hp : ∀ s,s∈l→kP g [.str s] (.bool (p s))) (hl:l.length<2 ^ 40):kP 311 [.ls (l.map lT), .func (.func g) [] []] (.bool (l.any p)):=by
  have h:=Y7 l g p hp hl
  have rr0 : ∀ b',(h:(l.any p)=b':=by (rw [kh];simp only [aS,aV,bS,qU]))→(l.any p)=b':=(fun _ h=>h);exact b7 Tryz.func311 (Mg 2 (Mp (h) (Mg 1 (Mf (aq (rr0 (aV (ao (aT p l 0) 0))))))))
theorem K8 (s:aP) (hs:s.length≤2 ^ 39):kP 312 [.str s] (.bool (aV (gh s))):=by
  exact b7 Tryz.func312 (Mg 1 (Mp (Rr s hs) (Mg 1 (Mf (aW (dW (aV (gh s))))))))
theorem Jt (l:List aP) (hl:l.length<2 ^ 40) (hs : ∀ s,s∈l→s.length≤2 ^ 39):kP 248 [.ls (l.map lT)] (.bool (lX l)):=by
  have h:=ZK l 312 _ (fun s m=>K8 s (hs s m)) hl
  have rr0 : ∀ b',(h:(lX l)=b':=by first | (simp only [lX,aS,aV,bS, *];done) | (rw [lX,List.all_eq_not_any_not];simp only [aS,aV,bS, *]))→(lX l)=b':=(fun _ h=>h);exact b7 Tryz.func248 (Mg 2 (Ml 4 (Le.len (f:=lT) (l:=l)) (Mg 1 (Mn (ao 256 (Int.ofNat l.length)) (fun h0=>(Mg 0 (Mt (ce h0) (Mp (h) (Mt (ce h0) (Mg 0 (M1 (.pk true) (ce h0) (Mg 0 (Mf (aq (rr0 (aV (l.any fun s=>aV (gh s)))))))))))))) (fun h0=>(Mh (cJ h0) (Mh (cJ h0) (M1 (.pk false) (cJ h0) (Mg 0 (Mf (aq (rr0 (false)))))))))))))
theorem Ol (r:Int):kP 315 [.int .i32 r] (.bool (ao r 48 || ao 57 r)):=by
  have rr0 : ∀ b',(h:(ao r 48 || ao 57 r)=b':=by (simp only [aS,aV,bS, *]))→(ao r 48 || ao 57 r)=b':=(fun _ h=>h);exact b7 Tryz.func315 (Mg 3 (Mb (ao r 48) (fun h0=>(Mt h0 (M1 (.pk true) h0 (Mg 0 (Mf (aq (rr0 (true)))))))) (fun h0=>(Mg 0 (Mh h0 (Mg 0 (M1 (.pk false) h0 (Mg 0 (Mf (aq (rr0 (ao 57 r))))))))))))
theorem Sa (r:Int):kP 250 [.int .i32 r] (.bool (ao r 65 || ao 90 r)):=by
  have rr0 : ∀ b',(h:(ao r 65 || ao 90 r)=b':=by (simp only [aS,aV,bS, *]))→(ao r 65 || ao 90 r)=b':=(fun _ h=>h);exact b7 Tryz.func250 (Mg 3 (Mb (ao r 65) (fun h0=>(Mt h0 (M1 (.pk true) h0 (Mg 0 (Mf (aq (rr0 (true)))))))) (fun h0=>(Mg 0 (Mh h0 (Mg 0 (M1 (.pk false) h0 (Mg 0 (Mf (aq (rr0 (ao 90 r))))))))))))
theorem zP (s:PStep):kP 174 [ak s] (.bool (az s.kind 0 && dS s.label [])):=by
  have rr0 : ∀ b',(h:(az s.kind 0 && dS s.label [])=b':=by (simp only [aS,aV,bS, *];first | done | rfl))→(az s.kind 0 && dS s.label [])=b':=(fun _ h=>h);exact b7 Tryz.func174 (Mg 5 (Mb (az s.kind 0) (fun h0=>(Mg 0 (Mt h0 (Mg 0 (Mt h0 (Mg 0 (M1 (.pk true) h0 (Mg 0 (Mf (aq (rr0 (dS s.label (ByteArray.mk #[]).data.toList)))))))))))) (fun h0=>(Mh h0 (Mh h0 (M1 (.pk false) h0 (Mg 0 (Mf (aq (rr0 (false)))))))))))
theorem tz (n a b:Int):kP 170 [iV n,iV a,iV b] (.bool (aV (ao n a) && aV (ao b n))):=by
  have rr0 : ∀ b',(h:(aV (ao n a) && aV (ao b n))=b':=by (simp only [aS,aV,bS, *]))→(aV (ao n a) && aV (ao b n))=b':=(fun _ h=>h);exact b7 Tryz.func170 (Mg 4 (Mn (ao n a) (fun h0=>(Mg 0 (Mt (ce h0) (Mg 0 (Mt (ce h0) (Mg 0 (M1 (.pk true) (ce h0) (Mg 0 (Mf (aq (rr0 (aV (ao b n))))))))))))) (fun h0=>(Mh (cJ h0) (Mh (cJ h0) (M1 (.pk false) (cJ h0) (Mg 0 (Mf (aq (rr0 (false)))))))))))
theorem PA (s:aP):kP 314 [.str s, .func (.func 315) [] []] (iV (bif Nat.beq (cN ec s) s.length then -1 else Int.ofNat (cN ec s))):=
  yo eP (Go.Proofs.enters_of Go.Proofs.Tryz.lidxf.f15 (by kernel_rfl) rfl) (Go.Proofs.enters_of Tryz.func315 (by kernel_rfl) rfl)
    (fun s w hp=>Go.Proofs.Any.strings_IndexFunc_grows Go.Proofs.Tryz.lidxf 315 #[] (Go.Proofs.enters_of Tryz.func315 (by kernel_rfl) rfl) _ s w hp) Ol (fun _=>rfl) (Gs (lo:=48) (hi:=57) (by omega)) s
theorem PB (s:aP) (h:By (Nat.beq (cN ec s) s.length) true):kP 314 [.str s, .func (.func 315) [] []] (iV (-1)):=by
  have:=PA s
  rw [show Nat.beq (cN ec s) s.length=true from h] at this
  exact this
theorem S7 (s:aP) (h:By (Nat.beq (cN ec s) s.length) false):kP 314 [.str s, .func (.func 315) [] []] (nV (cN ec s)):=by
  have:=PA s
  rw [show Nat.beq (cN ec s) s.length=false from h] at this
  exact this
theorem Yc (s:aP):kP 251 [.str s, .func (.func 250) [] []] (.bool (aV (s.all Au))):=
  sR eP (Go.Proofs.enters_of Go.Proofs.Tryz.lconf.f17 (by kernel_rfl) rfl) (Go.Proofs.enters_of Tryz.func250 (by kernel_rfl) rfl)
    (fun s w hp=>Go.Proofs.Any.strings_ContainsFunc_grows Go.Proofs.Tryz.lconf 250 #[] (Go.Proofs.enters_of Tryz.func250 (by kernel_rfl) rfl) _ s w hp) Sa (fun _=>rfl) (Gs (lo:=65) (hi:=90) (by omega)) s
theorem Ls (s:aP) (hs:s.length≤2 ^ 39):kP 249 [.str s] (.tuple [.str (s.take (cN ec s)), .str (s.drop (cN ec s))]):=by
  have hl:=rN (p:=ec) (s:=s)
  have rr0 : ∀ b',(h:(s.take (cN ec s))=b':=by (rw [j1 h0];simp))→(s.take (cN ec s))=b':=(fun _ h=>h);have rr1 : ∀ b',(h:(s.drop (cN ec s))=b':=by (rw [j1 h0];simp))→(s.drop (cN ec s))=b':=(fun _ h=>h);let q:=AHeap.mk 1000000 Tr.nil;exact b7 Tryz.func249 (Mg 2 (Ms ((cN ec s).beq (List.length s)) (fun h0=>Mp (PB s h0) (Mg 6 (Mf (cR (.cons (Le.str (rr0 (s))) (.cons (Le.str (rr1 ([]))) .nil)))))) (fun h0=>Mp (S7 s h0) (Mg 5 (Mv (UM (s:=s) (n:=cN ec s) (k:=IntKind.i64) (H:=q) (by omega)) (Mg 1 (Mv (UL (s:=s) (l:=cN ec s) (k:=IntKind.i64) (H:=q) (by omega)) (Mg 1 (Mf (aW (fQ [af (s.take (cN ec s)),af (s.drop (cN ec s))])))))))))))
theorem sa (s:aP) (hs:s.length≤2 ^ 39):kP 165 [.str s] (.bool (fu s)):=by
  have hd:(s.drop (cN ec s)).length≤2 ^ 39:=by rw [jW];omega
  have rr0 : ∀ b',(h:(fu s)=b':=by first | (simp only [fu,aS,aV,bS,qU, *];done) | (simp only [fu,aS,aV,bS,qU, *];rfl) | (unfold fu;simp only [h0,h1,h2];rfl))→(fu s)=b':=(fun _ h=>h);exact b7 Tryz.func165 (Mg 1 (Mp (Ls s hs) (Mg 9 (Mb (aV (ao (Int.ofNat (s.take (cN ec s)).length) 1)) (fun z=>have h0:(ao (Int.ofNat (s.take (cN ec s)).length) 1)=false:=(aI z);(have gh0:=av h0;(Mg 0 (Mt (ce h0) (Mg 0 (Mt (ce h0) (Mg 0 (M1 (.pk true) (ce h0) (Mg 0 (Mb (aV (ao 4 (Int.ofNat (s.take (cN ec s)).length))) (fun z=>have h1:(ao 4 (Int.ofNat (s.take (cN ec s)).length))=false:=(aI z);(have gh1:=av h1;(Mg 0 (Mt (ce h1) (M1 (.chr (gD (s.take (cN ec s)) 0)) (kL (by (simp only [oN,lM,lS] at *;omega):0<(s.take (cN ec s)).length)) (Mt (ce h1) (Mg 0 (M1 (.pk true) (ce h1) (Mg 0 (Mb (aV (az (Int.ofNat (gD (s.take (cN ec s)) 0).toNat) 48)) (fun z=>have h2:(az (Int.ofNat (gD (s.take (cN ec s)) 0).toNat) 48)=false:=(aI z);(have gh2:=iS h2;(Mg 0 (Mt (ce h2) (Mg 0 (Mt (ce h2) (Mg 0 (M1 (.pk true) (ce h2) (Mg 0 (Mn (ao 3 (Int.ofNat (s.drop (cN ec s)).length)) (fun h3=>have gh3:=av h3;(Mg 0 (Mt (ce h3) (Mg 0 (Mt (ce h3) (Mp (Yc (s.drop (cN ec s))) (Mt (ce h3) (Mg 0 (M1 (.pk true) (ce h3) (Mg 0 (Mf (aq (rr0 (aV (aV ((s.drop (cN ec s)).all Au)))))))))))))))) (fun h3=>have gh3:=aJ h3;(Mh (cJ h3) (Mh (cJ h3) (Mh (cJ h3) (M1 (.pk false) (cJ h3) (Mg 0 (Mf (aq (rr0 (false)))))))))))))))))))) (fun z=>have h2:(az (Int.ofNat (gD (s.take (cN ec s)) 0).toNat) 48)=true:=(aL z);(have gh2:=eJ h2;(Mh (cJ h2) (Mh (cJ h2) (M1 (.pk false) (cJ h2) (Mg 2 (Mf (aq (rr0 (false)))))))))))))))))))) (fun z=>have h1:(ao 4 (Int.ofNat (s.take (cN ec s)).length))=true:=(aL z);(have gh1:=aJ h1;(Mh (cJ h1) (Mh (cJ h1) (M1 (.pk false) (cJ h1) (Mg 4 (Mf (aq (rr0 (false)))))))))))))))))))) (fun z=>have h0:(ao (Int.ofNat (s.take (cN ec s)).length) 1)=true:=(aL z);(have gh0:=aJ h0;(Mh (cJ h0) (Mh (cJ h0) (M1 (.pk false) (cJ h0) (Mg 6 (Mf (aq (rr0 (false))))))))))))))
def T7 (p:List PStep) (x0:Nat × List PStep × Unit):Prop:=(p).drop x0.1=x0.2.1∧wU p=tK p x0.2.1
noncomputable def KT (p:List PStep) (x0:Nat × List PStep × Unit):List AV × List AObj:=([AV.ls (p.map ak),AV.ls (p.map ak),nV p.length,nV x0.1], [])
theorem pm (p:List PStep) (hl:p.length<2 ^ 40) (hs : ∀ s,s∈p→s.label.length≤2 ^ 39):kP 84 [.ls (p.map ak)] (.bool (gO p)):=by
  have rr0 : ∀ b',(h:(gO p)=b':=by first | (rw [gO,hj0,T6];rfl) | (rw [gO,Dg hx0.1 hr0 hj0];simp only [mX,rH,‹az (Int.ofNat x0.1) 0=_›,cond_true,cond_false];simp only [CI,aS,aV,bS, *];first | done | rfl))→(gO p)=b':=(fun _ h=>h);exact b7 Tryz.func84 (Mg 2 (Ml 6 (Le.len (f:=ak) (l:=p)) (Mg 0 (ML (Nat × List PStep × Unit) [0,5,6,7] (KT p) (T7 p) (fun x=>x.2.1.length) (0,p,()) (ax ((KT p) (0,p,()))) (et (rfl:List.drop 0 (p)=p) (by (exact NK):(wU p=tK p p))) (fun x0 hx0 nx0=>Mc x0.2.1 (fun hr0=>have lt0:=ai hx0.1 hr0;(have hj0:=aF (J:=fun r x=>wU p=tK p r) (a:=x0.2.2) hr0 hx0.2;(Mg 0 (Mh lt0 (Mg 1 (Ml 34 (Le.len (f:=ak) (l:=p)) (Mg 1 (Mf (aq (rr0 (aV (ao 9 (Int.ofNat p.length))))))))))))) (fun w0 r0 hr0=>have lt0:=aD hx0.1 hr0;(have glt0:=aJ lt0;(have nt0:=ah (enc:=ak) hx0.1 hr0;(have hj0:=aE (J:=fun r x=>wU p=tK p r) (a:=x0.2.2) hr0 hx0.2;(Mg 0 (Mt lt0 (Mg 0 (Mx nt0 (Mg 6 (Mb (az (Int.ofNat x0.1) 0) (fun h0=>have gh0:=eJ h0;(Mg 0 (Mt h0 (Mp (zP w0) (M1 (.pk true) h0 (Mb (az w0.kind 0 && dS w0.label []) (fun h1=>Mg 0 (Ml 32 (Le.wr (x:=Int.ofNat x0.1+1) cq) (Mg 0 (M1 (.frz 0 [0,5,6,7]) ti (Mf (nx0 (x0.1+1,r0,()) (et (ay hx0.1 hr0) (by (rw [Dg hx0.1 hr0 hj0];simp only [mX,rH,‹az (Int.ofNat x0.1) 0=_›,cond_true,cond_false];simp only [CI,aS,aV,bS, *];first | done | rfl):(wU p=tK p r0))) (aO hr0))))))) (fun h1=>Mg 3 (Mb (aV (ao 0 w0.kind)) (fun z=>have h2:(ao 0 w0.kind)=false:=(aI z);(have gh2:=av h2;(Mt (ce h2) (Mt (ce h2) (M1 (.pk true) (ce h2) (Mg 3 (Mf (aq (rr0 (false)))))))))) (fun z=>have h2:(ao 0 w0.kind)=true:=(aL z);(have gh2:=aJ h2;(Mg 0 (Mh (cJ h2) (Mg 0 (Mh (cJ h2) (Mg 0 (M1 (.pk false) (cJ h2) (Mg 0 (Mb (ao 7 w0.kind) (fun h3=>have gh3:=aJ h3;(Mt h3 (Mt h3 (Mt h3 (M1 (.pk true) h3 (Mg 1 (Mf (aq (rr0 (false)))))))))) (fun h3=>have gh3:=av h3;(Mg 0 (Mh h3 (Mg 0 (Mh h3 (Mp (sa (w0.label) (by exact hs _ (bJ hx0.1 hr0))) (Mh h3 (Mg 0 (M1 (.pk false) h3 (Mn (fu w0.label) (fun h4=>Mg 0 (Mf (aq (rr0 (false))))) (fun h4=>Mg 0 (Ml 32 (Le.wr (x:=Int.ofNat x0.1+1) cq) (Mg 0 (M1 (.frz 0 [0,5,6,7]) ti (Mf (nx0 (x0.1+1,r0,()) (et (ay hx0.1 hr0) (by (rw [Dg hx0.1 hr0 hj0];simp only [mX,rH,‹az (Int.ofNat x0.1) 0=_›,cond_true,cond_false];simp only [CI,aS,aV,bS, *];first | done | rfl):(wU p=tK p r0))) (aO hr0))))))))))))))))))))))))))))))))))) (fun h0=>have gh0:=iS h0;(Mh h0 (M1 (.pk false) h0 (Mg 4 (Mb (aV (ao 0 w0.kind)) (fun z=>have h5:(ao 0 w0.kind)=false:=(aI z);(have gh5:=av h5;(Mt (ce h5) (Mt (ce h5) (M1 (.pk true) (ce h5) (Mg 3 (Mf (aq (rr0 (false)))))))))) (fun z=>have h5:(ao 0 w0.kind)=true:=(aL z);(have gh5:=aJ h5;(Mg 0 (Mh (cJ h5) (Mg 0 (Mh (cJ h5) (Mg 0 (M1 (.pk false) (cJ h5) (Mg 0 (Mb (ao 7 w0.kind) (fun h6=>have gh6:=aJ h6;(Mt h6 (Mt h6 (Mt h6 (M1 (.pk true) h6 (Mg 1 (Mf (aq (rr0 (false)))))))))) (fun h6=>have gh6:=av h6;(Mg 0 (Mh h6 (Mg 0 (Mh h6 (Mp (sa (w0.label) (by exact hs _ (bJ hx0.1 hr0))) (Mh h6 (Mg 0 (M1 (.pk false) h6 (Mn (fu w0.label) (fun h7=>Mg 0 (Mf (aq (rr0 (false))))) (fun h7=>Mg 0 (Ml 32 (Le.wr (x:=Int.ofNat x0.1+1) cq) (Mg 0 (M1 (.frz 0 [0,5,6,7]) ti (Mf (nx0 (x0.1+1,r0,()) (et (ay hx0.1 hr0) (by (rw [Dg hx0.1 hr0 hj0];simp only [mX,rH,‹az (Int.ofNat x0.1) 0=_›,cond_true,cond_false];simp only [CI,aS,aV,bS, *];first | done | rfl):(wU p=tK p r0))) (aO hr0)))))))))))))))))))))))))))))))))))))))))))))))
def Vf (l:List Int) (v:Int) (x0:Nat × List Int × Unit):Prop:=(l).drop x0.1=x0.2.1∧aT (az v) l (0:Nat)=aT (az v) x0.2.1 (l.length - x0.2.1.length)
noncomputable def Pu (l:List Int) (v:Int) (x0:Nat × List Int × Unit):List AV × List AObj:=([AV.ls (l.map zY),iV v,nV l.length,nV x0.1], [])
theorem S6 (l:List Int) (v:Int) (hl:l.length<2 ^ 40):kP 351 [.ls (l.map zY),iV v] (iV (aT (az v) l 0)):=by
  have rr0 : ∀ b',(h:(aT (az v) l 0)=b':=by first | exact lK hx0.1 hr0 hj0 (by assumption) | exact hj0)→(aT (az v) l 0)=b':=(fun _ h=>h);exact b7 Tryz.func351 (Mg 2 (Ml 7 (Le.len (f:=zY) (l:=l)) (Mg 0 (ML (Nat × List Int × Unit) [0,1,7,8] (Pu l v) (Vf l v) (fun x=>x.2.1.length) (0,l,()) (ax ((Pu l v) (0,l,()))) (et (rfl:List.drop 0 (l)=l) (by (exact lc):(aT (az v) l (0:Nat)=aT (az v) l (l.length - l.length)))) (fun x0 hx0 nx0=>Mc x0.2.1 (fun hr0=>have lt0:=ai hx0.1 hr0;(have hj0:=aF (J:=fun r x=>aT (az v) l (0:Nat)=aT (az v) r (l.length - r.length)) (a:=x0.2.2) hr0 hx0.2;(Mg 0 (Mh lt0 (Mg 0 (Mf (aj (k:= .i64) (rr0 (-1))))))))) (fun w0 r0 hr0=>have lt0:=aD hx0.1 hr0;(have glt0:=aJ lt0;(have nt0:=ah (enc:=zY) hx0.1 hr0;(have hj0:=aE (J:=fun r x=>aT (az v) l (0:Nat)=aT (az v) r (l.length - r.length)) (a:=x0.2.2) hr0 hx0.2;(Mg 0 (Mt lt0 (Mg 4 (Mx nt0 (Mg 1 (Mb (az v w0) (fun h0=>have gh0:=eJ h0;(Mg 1 (Mf (aj (k:= .i64) (rr0 (Int.ofNat x0.1)))))) (fun h0=>have gh0:=iS h0;(Mg 0 (Ml 18 (Le.wr (x:=Int.ofNat x0.1+1) cq) (Mg 0 (Mf (nx0 (x0.1+1,r0,()) (et (ay hx0.1 hr0) (by exact jL hx0.1 hr0 hj0 (by assumption):(aT (az v) l (0:Nat)=aT (az v) r0 (l.length - r0.length)))) (aO hr0))))))))))))))))))))))
theorem pO (l:List Int) (v:Int) (hl:l.length<2 ^ 40):kP 302 [.ls (l.map zY),iV v] (.bool (l.any (az v))):=by
  have h:=S6 l v hl
  have rr0 : ∀ b',(h:(l.any (az v))=b':=by (rw [kh];simp only [aS,aV,bS,qU]))→(l.any (az v))=b':=(fun _ h=>h);exact b7 Tryz.func302 (Mg 2 (Mp (h) (Mg 1 (Mf (aq (rr0 (aV (ao (aT (az v) l 0) 0))))))))
theorem Pt (v:Int):kP 351 [.nils,iV v] (iV (-1)):=by
  let q:= [aR,iV v,iV 0,iV 0];exact b7 Tryz.func351 (Mg 3 (ML Unit [0,1,7,8] (fun _=>(q, [])) (fun _=>True) (fun _=>0) () (ax ((q, []):List AV × List AObj)) ti (fun _ _ nx=>Mg 2 (Mf (aW (iV (-1)))))))
theorem Gn (v:Int):kP 302 [.nils,iV v] (.bool false):=by
  have h:=Pt v
  exact b7 Tryz.func302 (Mg 2 (Mp (h) (Mg 1 (Mf (aW (dW false))))))
theorem Y2:kP 380 [iV 0] (.str (dZ 0)):=by
  exact wk Tryz.func380 (.go 11 .fin) (aW (af [98,111,111,107]))
theorem Y1:kP 380 [iV 1] (.str (dZ 1)):=by
  exact wk Tryz.func380 (.go 11 .fin) (aW (af [112,97,114,116]))
theorem Y0:kP 380 [iV 2] (.str (dZ 2)):=by
  exact wk Tryz.func380 (.go 11 .fin) (aW (af [115,101,99,116,105,111,110]))
theorem YT:kP 380 [iV 3] (.str (dZ 3)):=by
  exact wk Tryz.func380 (.go 11 .fin) (aW (af [112,97,114,97,103,114,97,112,104]))
theorem YS:kP 380 [iV 4] (.str (dZ 4)):=by
  exact wk Tryz.func380 (.go 11 .fin) (aW (af [116,97,98,108,101]))
theorem YR:kP 380 [iV 5] (.str (dZ 5)):=by
  exact wk Tryz.func380 (.go 11 .fin) (aW (af [114,111,119]))
theorem YP:kP 380 [iV 6] (.str (dZ 6)):=by
  exact wk Tryz.func380 (.go 11 .fin) (aW (af [99,101,108,108]))
theorem YO:kP 380 [iV 7] (.str (dZ 7)):=by
  exact wk Tryz.func380 (.go 11 .fin) (aW (af [110,111,116,101]))
theorem YN (k:Int) (h:k<0∨7<k):kP 380 [iV k] (.str (dZ k)):=by
  rw [H8 h]
  have c:ao k 0=true∨(ao k 0=false∧ao k 8=false):=by
    by_cases q:k<0
    · exact .inl (E5 q)
    · exact .inr ⟨vK (by omega),vK (by omega)⟩
  rcases c with c | ⟨c,d⟩
  · exact b7 Tryz.func380 (Mg 3 (Mt c (Mt c (M1 (.pk true) c (Mg 1 (Mf (aW (af []))))))))
  · exact b7 Tryz.func380 (Mg 3 (Mh c (Mg 0 (Mh c (Mg 0 (M1 (.pk false) c (Mt (ce d) (Mg 0 (Mf (aW (af [])))))))))))
theorem vz (k:Int):kP 380 [iV k] (.str (dZ k)):=by
  by_cases h:k<0∨7<k
  · exact YN k h
  · rcases yg (k:=k) (by omega) (by omega) with rfl | rfl | rfl | rfl | rfl | rfl | rfl | rfl
    · exact Y2
    · exact Y1
    · exact Y0
    · exact YT
    · exact YS
    · exact YR
    · exact YP
    · exact YO
theorem ZY (p k:Int) (h:p<0∨7<p):kP 226 [iV p,iV k] (.bool (jZ p k)):=by
  unfold jZ
  rw [Hx h]
  have c:ao p 0=true∨(ao p 0=false∧ao p 8=false):=by
    by_cases q:p<0
    · exact .inl (E5 q)
    · exact .inr ⟨vK (by omega),vK (by omega)⟩
  rcases c with c | ⟨c,d⟩
  · exact b7 Tryz.func226 (Mg 3 (Mh (cJ c) (Mh (cJ c) (M1 (.pk false) (cJ c) (Mg 2 (Mf (aW (dW false))))))))
  · exact b7 Tryz.func226 (Mg 3 (Mt (ce c) (Mg 0 (Mt (ce c) (Mg 0 (M1 (.pk true) (ce c) (Mg 0 (Mh d (Mh d (Mh d (Mh d (Mh d (M1 (.pk false) d (Mg 0 (Mf (aW (dW false)))))))))))))))))
theorem Zv (k:Int):kP 226 [iV 0,iV k] (.bool (jZ 0 k)):=by
  have h:=pO [1,2] k (by decide)
  let q:= [iV 1,iV 2];exact b7 Tryz.func226 (Mg 11 (Mp (bw.onArgs (.cons (ib (q) _ (by rfl)) (.cons (aW _) .nil)) (h):kP 302 [eL q false,iV k] _) (Mg 1 (Mf (aW (dW ([1,2].any (az k))))))))
theorem Zw (k:Int):kP 226 [iV 1,iV k] (.bool (jZ 1 k)):=by
  have h:=pO [2] k (by decide)
  let q:= [iV 2];exact b7 Tryz.func226 (Mg 11 (Mp (bw.onArgs (.cons (ib (q) _ (by rfl)) (.cons (aW _) .nil)) (h):kP 302 [eL q false,iV k] _) (Mg 1 (Mf (aW (dW ([2].any (az k))))))))
theorem Zk (k:Int):kP 226 [iV 2,iV k] (.bool (jZ 2 k)):=by
  have h:=pO [3,4,7] k (by decide)
  let q:= [iV 3,iV 4,iV 7];exact b7 Tryz.func226 (Mg 11 (Mp (bw.onArgs (.cons (ib (q) _ (by rfl)) (.cons (aW _) .nil)) (h):kP 302 [eL q false,iV k] _) (Mg 1 (Mf (aW (dW ([3,4,7].any (az k))))))))
theorem Zj (k:Int):kP 226 [iV 3,iV k] (.bool (jZ 3 k)):=by
  have h:=pO [3,4,7] k (by decide)
  let q:= [iV 3,iV 4,iV 7];exact b7 Tryz.func226 (Mg 11 (Mp (bw.onArgs (.cons (ib (q) _ (by rfl)) (.cons (aW _) .nil)) (h):kP 302 [eL q false,iV k] _) (Mg 1 (Mf (aW (dW ([3,4,7].any (az k))))))))
theorem Zx (k:Int):kP 226 [iV 4,iV k] (.bool (jZ 4 k)):=by
  have h:=pO [5] k (by decide)
  let q:= [iV 5];exact b7 Tryz.func226 (Mg 11 (Mp (bw.onArgs (.cons (ib (q) _ (by rfl)) (.cons (aW _) .nil)) (h):kP 302 [eL q false,iV k] _) (Mg 1 (Mf (aW (dW ([5].any (az k))))))))
theorem Zz (k:Int):kP 226 [iV 5,iV k] (.bool (jZ 5 k)):=by
  have h:=pO [6] k (by decide)
  let q:= [iV 6];exact b7 Tryz.func226 (Mg 11 (Mp (bw.onArgs (.cons (ib (q) _ (by rfl)) (.cons (aW _) .nil)) (h):kP 302 [eL q false,iV k] _) (Mg 1 (Mf (aW (dW ([6].any (az k))))))))
theorem Zq (k:Int):kP 226 [iV 6,iV k] (.bool (jZ 6 k)):=by
  have h:=Gn k
  exact b7 Tryz.func226 (Mg 11 (Mp (h) (Mg 1 (Mf (aW (dW false))))))
theorem ZU (k:Int):kP 226 [iV 7,iV k] (.bool (jZ 7 k)):=by
  have h:=Gn k
  exact b7 Tryz.func226 (Mg 11 (Mp (h) (Mg 1 (Mf (aW (dW false))))))
theorem yV (p k:Int):kP 226 [iV p,iV k] (.bool (jZ p k)):=by
  by_cases h:p<0∨7<p
  · exact ZY p k h
  · rcases yg (k:=p) (by omega) (by omega) with rfl | rfl | rfl | rfl | rfl | rfl | rfl | rfl
    · exact Zv k
    · exact Zw k
    · exact Zk k
    · exact Zj k
    · exact Zx k
    · exact Zz k
    · exact Zq k
    · exact ZU k
end Go.Proofs.YtefibmgdgameaaaGreatDoor
