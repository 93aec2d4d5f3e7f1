import Derived.Test.YtpcjeaeadhciiaaGreatDoorHs3
import Derived.Test.YtpcjeaeadhciiaaGreatDoorMach8
namespace Go.Proofs.YtpcjeaeadhciiaaGreatDoor
open Go Go.Ev
def pairs_e1I (l : List PPair) (x0 : Nat) : Prop := x0 ≤ l.length
noncomputable def pairs_e1S (l : List PPair) (x0 : Nat) : List AV × List AObj := ([AV.ls (List.map encPair l), AV.ls (List.map encPair l), AV.int IntKind.i64 (Int.ofNat x0)], [])
theorem pairs_ok (l m : List PPair) (hl : l.length < 2 ^ 31) (hm : m.length < 2 ^ 31) (he : l = m) : HPure Tryz.prog G 17 [.ls (l.map encPair), .ls (m.map encPair)] (.bool true) := by
  subst he
  exact HPure.walk mixed gtop (ev 40) (by kernel_rfl) (by kernel_rfl) (fn := Tryz.f17) Tryz.func17 (by kernel_rfl) rfl ⟨by kernel_rfl, by kernel_rfl⟩ (.go 2 (.le 7 (AV.int IntKind.i64 (Int.ofNat l.length)) (.go 1 (.le 9 (AV.int IntKind.i64 (Int.ofNat l.length)) (.go 0 (.br (.go 0 .fin) (.go 0 (.loop (Nat) [0, 1, 5] (pairs_e1S l) (pairs_e1I l) (fun x => l.length - x) (0) (fun x0 => (.go 2 (.le 13 (AV.int IntKind.i64 (Int.ofNat l.length)) (.go 0 (.br (.go 1 (.elem (encPair (gD l x0)) (.go 2 (.elem (encPair (gD l x0)) (.go 0 (.val (AV.bool false) (.go 2 (.le 16 (AV.int IntKind.i64 (Int.ofNat (x0 + 1))) (.go 0 .fin))))))))) (.go 0 .fin)))))))))))))) (et (Le.len (f := encPair) (l := l)) (et (Le.len (f := encPair) (l := l)) (et (fun (z : (bnot (eqI (Int.ofNat l.length) (Int.ofNat l.length))) = true) => have h0 : (eqI (Int.ofNat l.length) (Int.ofNat l.length)) = false := (of_bnotT z); (have gh0 := eqI_f h0; ((Le.bool (by first | rfl | omega : (true) = (false))) : Le _ (AV.bool false)))) (fun (z : (bnot (eqI (Int.ofNat l.length) (Int.ofNat l.length))) = false) => have h0 : (eqI (Int.ofNat l.length) (Int.ofNat l.length)) = true := (of_bnotF z); (have gh0 := eqI_t h0; (et (Eq.refl ((pairs_e1S l) (0))) (et (by first | omega | (simp only [Int.ofNat_eq_natCast] at *; omega) : (0 : Nat) ≤ l.length) (fun (x0 : Nat) (hx0 : (pairs_e1I l) x0) => have hx0 : x0 ≤ l.length := hx0; (et (Le.len (f := encPair) (l := l)) (et (fun (h2 : (ltI (Int.ofNat x0) (Int.ofNat l.length)) = true) => (have gh2 := ltI_true h2; (et (nth_at encPair (by first | omega | (simp only [Int.ofNat_eq_natCast, List.length_map, List.length_set] at *; omega) | (simp only [Int.ofNat_eq_natCast, List.length_map, List.length_set, List.length_append, List.length_replicate, List.length_cons, List.length_nil] at * <;> omega) : x0 < (l).length)) (et (nth_at encPair (by first | omega | (simp only [Int.ofNat_eq_natCast, List.length_map, List.length_set] at *; omega) | (simp only [Int.ofNat_eq_natCast, List.length_map, List.length_set, List.length_append, List.length_replicate, List.length_cons, List.length_nil] at * <;> omega) : x0 < (l).length)) (et (agg_neq (d := (Tryz.prog).underlying 47) (n := 2) (l := (0, 1) :: (1, 1) :: []) (xs := [AV.int IntKind.i64 (gD l x0).a, AV.int IntKind.i64 (gD l x0).b]) (ys := [AV.int IntKind.i64 (gD l x0).a, AV.int IntKind.i64 (gD l x0).b]) (H := AHeap.mk 1000000 Tr.nil) rfl (eqL_t rfl rfl (eqS_i ((gD l x0).a)) (eqL_t rfl rfl (eqS_i ((gD l x0).b)) rfl))) (et (Le.wn (x := Int.ofNat x0 + (1 : Int)) (n := x0 + (1 : Nat)) (by first | omega | (simp only [Int.ofNat_eq_natCast, List.length_map, List.length_set] at *; omega) | (simp only [Int.ofNat_eq_natCast, List.length_map, List.length_set, List.length_append, List.length_replicate, List.length_cons, List.length_nil] at * <;> omega))) (Nx.mk (I := (pairs_e1I l)) (m := (fun x => l.length - x)) (S := (pairs_e1S l)) (x := x0) (x0 + 1) (by first | omega | (simp only [Int.ofNat_eq_natCast] at *; omega) : x0 + (1 : Nat) ≤ l.length) (by first | omega | (simp only [Int.ofNat_eq_natCast] at *; omega) : l.length - (x0 + (1 : Nat)) < l.length - x0)))))))) (fun (h2 : (ltI (Int.ofNat x0) (Int.ofNat l.length)) = false) => (have gh2 := ltI_false h2; ((Le.refl _) : Le _ (AV.bool true)))))))))))))) (by kernel_rfl)
mutual
theorem sizeU_n : ∀ (u : TUnit) (deep most : Int), sizeU u deep most ≤ most → Int.ofNat (nU u) ≤ sizeU u deep most
  | ⟨_, _, _, _, _, _, _, kids⟩, deep, most, h => by
    rw [sizeU] at h ⊢
    cases hd : ltI 20 deep with
    | true => rw [hd] at h; simp only at h; omega
    | false =>
      rw [hd] at h
      have := sizeK_n kids deep most 1 h
      rw [nU]
      simp only [Int.ofNat_eq_natCast] at *
      omega
theorem sizeK_n : ∀ (l : List TUnit) (deep most n : Int), sizeK l deep most n ≤ most → n + Int.ofNat (nUs l) ≤ sizeK l deep most n
  | [], _, _, n, _ => by rw [sizeK, nUs]; exact Int.le_of_eq (Int.add_zero n)
  | k :: r, deep, most, n, h => by
    rw [sizeK] at h ⊢
    cases hd : ltI most n with
    | true => rw [hd] at h; have := ltI_true hd; simp only at h; omega
    | false =>
      rw [hd] at h
      have h2 := sizeK_n r deep most _ h
      have h1 := sizeU_n k (deep + 1) (most - n) (by simp only [Int.ofNat_eq_natCast] at *; omega)
      rw [nUs]
      simp only [Int.ofNat_eq_natCast] at *
      omega
end
theorem nUs_len : ∀ (l : List TUnit), l.length ≤ nUs l
  | [] => Nat.zero_le _
  | k :: r => by have := nUs_len r; have := nU_eq k; rw [nUs, List.length_cons]; omega
theorem shortB_len {ws : List PWord} (h : shortB ws = true) : ws.length ≤ 300 := by
  unfold shortB at h
  have h := (Bool.and_eq_true_iff.1 h).2
  cases hd : ltI 300 (.ofNat ws.length) with
  | true => rw [hd] at h; cases h
  | false => have := ltI_false hd; simp only [Int.ofNat_eq_natCast] at this; omega
theorem okU_of : ∀ (u : TUnit), nU u ≤ 60 → wordsB u = true → okU u := by
  refine TUnit.ind fun u ih hn hw => ?_
  rw [wordsB_eq] at hw
  simp only [Bool.and_eq_true] at hw
  obtain ⟨⟨⟨_, h1⟩, h2⟩, h3⟩ := hw
  have h4 := nUs_len u.kids
  have h5 := nU_eq u
  exact okU_iff.2 ⟨shortB_len h1, shortB_len h2, by omega, fun k hk => ih k hk (by have := nU_kid hk; omega) (List.all_eq_true.1 h3 k hk)⟩
theorem few_ok {u : TUnit} (h : fewU u 60 = true) : okU u ∧ nU u ≤ 60 := by
  unfold fewU at h
  obtain ⟨h1, h2⟩ := Bool.and_eq_true_iff.1 h
  have hn : nU u ≤ 60 := by
    cases hd : ltI 60 (sizeU u 0 60) with
    | true => rw [hd] at h1; cases h1
    | false =>
      have h3 := ltI_false hd
      have := sizeU_n u 0 60 h3
      simp only [Int.ofNat_eq_natCast] at this
      omega
  exact ⟨okU_of u hn h2, hn⟩
noncomputable def cntN (k : Int) (ws : List PWord) : Nat := (cnt k ws).toNat
theorem cntN_eq (k : Int) (ws : List PWord) : cnt k ws = Int.ofNat (cntN k ws) := (Int.toNat_of_nonneg (cnt_le k ws).1).symm
theorem cntN_append (k : Int) (a b : List PWord) : cntN k (a ++ b) = cntN k a + cntN k b := by
  have h := cnt_append k a b
  rw [cntN_eq, cntN_eq k a, cntN_eq k b] at h
  exact Int.ofNat.inj h
theorem cntN_le (k : Int) (a : List PWord) : cntN k a ≤ a.length := by
  have h := (cnt_le k a).2
  rw [cntN_eq] at h
  exact Int.ofNat_le.1 h
noncomputable def cntL (k : Int) (l : List TUnit) : Nat := cntN k (allWs l)
theorem cntL_nil (k : Int) : cntL k [] = 0 := by unfold cntL; rw [allWs_nil]; rfl
theorem cntL_cons (k : Int) (w : TUnit) (r : List TUnit) : cntL k (w :: r) = cntN k (allW w) + cntL k r := by unfold cntL; rw [allWs_cons, cntN_append]
theorem cba_n (u : TUnit) (k : Int) (hf : okU u) (hl : (allW u).length ≤ 2 ^ 30) : HPure Tryz.prog G 20 [eU u, .int .i64 k] (.int .i64 (.ofNat (cntN k (allW u)))) := by
  have h := cba_ok u k hf (by simp only [Int.ofNat_eq_natCast]; omega)
  rwa [cntN_eq] at h
noncomputable abbrev boxO (u : TUnit) : AObj := .row 8 false 0 [eU u]
noncomputable abbrev ownV (u : TUnit) : AV := .agg [.int .i64 0, .int .i64 0, .int .i64 0, .int .i64 0, .str [], .ls (u.head.map encWord), .ls (u.words.map encWord), .nils]
noncomputable abbrev ownO (u : TUnit) : AObj := .row 8 false 0 [ownV u]
noncomputable abbrev upV (u : TUnit) : AV := .agg [.int .i64 0, .int .i64 0, .int .i64 0, .int .i64 0, .str [], .nils, .nils, .ls [eU u]]
theorem eqI_no {a b : Nat} (h : eqI (.ofNat a) (.ofNat b) = false) (e : a = b) : False := eqI_f h (congrArg Int.ofNat e)
end Go.Proofs.YtpcjeaeadhciiaaGreatDoor
