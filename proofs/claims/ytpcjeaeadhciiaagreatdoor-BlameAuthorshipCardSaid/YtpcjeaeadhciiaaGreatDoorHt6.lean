import Derived.Test.YtpcjeaeadhciiaaGreatDoorHt5
import Derived.Test.YtpcjeaeadhciiaaGreatDoorMach8
namespace Go.Proofs.YtpcjeaeadhciiaaGreatDoor
open Go Go.Ev
/-- What the law's first question says of a tree. -/
theorem texts_of : ∀ (u : TUnit), wordsB u = true → ∀ x, x ∈ preU u → tameX x := by
  refine TUnit.ind fun u ih hw x hx => ?_
  rw [wordsB_eq] at hw
  simp only [Bool.and_eq_true] at hw
  obtain ⟨⟨⟨h0, h1⟩, h2⟩, h3⟩ := hw
  have tx : ∀ ws : List PWord, shortB ws = true → ∀ w, w ∈ ws → w.text.length ≤ 2 ^ 39 := fun ws h w hm => by
    unfold shortB at h
    have := List.all_eq_true.1 (Bool.and_eq_true_iff.1 h).1 w hm
    unfold shortOne at this
    cases hd : ltI 100 (.ofNat w.text.length) with
    | true => rw [hd] at this; cases this
    | false => have := ltI_false hd; simp only [Int.ofNat_eq_natCast] at this; omega
  rw [preU_eq] at hx
  rcases List.mem_cons.1 hx with rfl | hx
  · refine ⟨shortB_len h1, shortB_len h2, ?_, tx _ h1, tx _ h2⟩
    cases hd : ltI 30 (.ofNat x.label.length) with
    | true => rw [hd] at h0; cases h0
    | false => have := ltI_false hd; simp only [Int.ofNat_eq_natCast] at this; omega
  · have key : ∀ (l : List TUnit), (∀ k, k ∈ l → k ∈ u.kids) → x ∈ preUs l → tameX x := by
      intro l
      induction l with
      | nil => intro _ h; rw [preUs_nil] at h; cases h
      | cons k r ihr =>
        intro hm h
        rw [preUs_cons, List.mem_append] at h
        rcases h with h | h
        · exact ih k (hm k (List.mem_cons_self ..)) (List.all_eq_true.1 h3 k (hm k (List.mem_cons_self ..))) x h
        · exact ihr (fun z hz => hm z (List.mem_cons_of_mem _ hz)) h
    exact key u.kids (fun _ h => h) hx
theorem few_tame {u : TUnit} (h : fewU u 60 = true) : tameU u := by
  have h1 := few_ok h
  unfold fewU at h
  exact ⟨by have := h1.2; omega, texts_of u (Bool.and_eq_true_iff.1 h).2⟩
theorem auth_f (u : TUnit) (p : PId) (act : Int) (aw : HPure Tryz.prog G 12 [] (.bool true)) (hfew : HPure Tryz.prog G 13 [eU u, .int .i64 60] (.bool false)) : HPure Tryz.prog G 5 [eU u, encPid p, .int .i64 act] (.bool true) := by
  exact HPure.walk mixed gtop (ev 40) (by kernel_rfl) (by kernel_rfl) (fn := Tryz.f5) Tryz.func5 (by kernel_rfl) rfl ⟨by kernel_rfl, by kernel_rfl⟩ (.go 2 (.pure (AV.bool true) (.go 2 (.pure (AV.bool false) (.go 2 .fin))))) (et (aw) (et (hfew) ((Le.refl _) : Le _ (AV.bool true)))) (by kernel_rfl)
theorem auth_t (u : TUnit) (p : PId) (act : Int) (aw : HPure Tryz.prog G 12 [] (.bool true)) (hfew : HPure Tryz.prog G 13 [eU u, .int .i64 60] (.bool true)) (hq : fewU u 60 = true) : HPure Tryz.prog G 5 [eU u, encPid p, .int .i64 act] (.bool true) := by
  obtain ⟨ok, hn⟩ := few_ok hq
  have hlen : (allW u).length ≤ 36000 := by have := allW_len u ok; omega
  have hA := auth_u p u (by omega) ok
  have hR : HPure Tryz.prog G 16 [eU u, encPid p] (.ls ((authorsL p u).map encRef)) := by
    cases h : hasU p u with
    | true => exact rwords_y p u h (by omega) ok
    | false => exact rwords_n p u h (by omega) ok
  have hW := wc_ok u ok (by omega)
  have hS := share_u u (by omega) ok
  have hC := cba_n u act ok (by omega)
  have hO := rwhose_u u act (by omega) ok
  have hal : (authorsL p u).length ≤ 600 := by unfold authorsL; rw [List.length_map]; exact words_len (find_ok ok)
  have hsh : (sharesL (allW u)).length < 2 ^ 31 := by
    unfold sharesL
    rw [List.length_mergeSort, List.length_map]
    exact Nat.lt_of_le_of_lt (tally_len hlen) (by decide)
  have hP := places_ok (authorsL p u) (authorsL p u) (by omega) (by omega) rfl
  have hE : eqI (.ofNat (cntN act (allW u))) (.ofNat (cntN act (allW u))) = true := eqI_refl _
  exact HPure.walk mixed gtop (ev 40) (by kernel_rfl) (by kernel_rfl) (fn := Tryz.f5) Tryz.func5 (by kernel_rfl) rfl ⟨by kernel_rfl, by kernel_rfl⟩ (.go 2 (.pure (AV.bool true) (.go 2 (.pure (AV.bool true) (.go 3 (.pure (AV.ls (List.map encRef (authorsL p u))) (.go 1 (.pure (AV.ls (List.map encRef (authorsL p u))) (.pure (AV.bool true) (.go 1 (.pure (AV.ls (List.map encPair (sharesL (allW u)))) (.go 0 (.pure (AV.ls (List.map encPair (sharesL (allW u)))) (.pure (AV.bool true) (.go 3 (.pure (AV.int IntKind.i64 (Int.ofNat (cntN act (allW u)))) (.go 1 (.pure (AV.int IntKind.i64 (Int.ofNat (cntN act (allW u)))) (.go 2 .fin))))))))))))))))))) (et (aw) (et (hfew) (et (hA) (et (hR) (et (hP) (et (hW) (et (hS) (et (pairs_ok (sharesL (allW u)) (sharesL (allW u)) hsh hsh (by first | assumption | rfl | omega)) (et (hC) (et (hO) ((Le.bool (by first | rfl | exact hE.symm | assumption : (true) = (eqI (Int.ofNat (cntN act (allW u))) (Int.ofNat (cntN act (allW u)))))) : Le _ (AV.bool (eqI (Int.ofNat (cntN act (allW u))) (Int.ofNat (cntN act (allW u)))))))))))))))) (by kernel_rfl)
/-- The law. -/
theorem auth_law (u : TUnit) (p : PId) (act : Int) (hf : fitU u) (aw : HPure Tryz.prog G 12 [] (.bool true)) : HPure Tryz.prog G 5 [eU u, encPid p, .int .i64 act] (.bool true) := by
  have hfew := fewU_ok u 60 hf (by decide) (by decide)
  cases hq : fewU u 60 with
  | false => rw [hq] at hfew; exact auth_f u p act aw hfew
  | true => rw [hq] at hfew; exact auth_t u p act aw hfew hq
theorem tot_b {W : List PWord} {i : Nat} (hi : i < (sharesL W).length) : (gD (sharesL W) i).b = .ofNat (cntN (gD (sharesL W) i).a W) ∧ 1 ≤ (gD (sharesL W) i).b := by
  have := shares_mem.1 (gD_mem hi)
  rw [cntN_eq] at this
  exact ⟨this.1, this.2⟩
theorem tot_lt {W : List PWord} {i : Nat} (h0 : 0 < i) (hi : i < (sharesL W).length) : (gD (sharesL W) (i - 1)).a < (gD (sharesL W) i).a := by
  have h := shares_rise W
  unfold Rise at h
  rw [List.pairwise_iff_getElem] at h
  have := h (i - 1) i (by omega) hi (by omega)
  simpa [gD, List.getD, List.getElem?_eq_getElem hi, List.getElem?_eq_getElem (show i - 1 < (sharesL W).length by omega)] using this
theorem sumB_pos : ∀ {l : List PPair}, (∀ p, p ∈ l → 1 ≤ p.b) → 0 ≤ sumB l
  | [], _ => Int.le_refl _
  | p :: r, h => by
    have h1 := h p (List.mem_cons_self ..)
    have h2 := sumB_pos (l := r) fun q hq => h q (List.mem_cons_of_mem _ hq)
    rw [sumB]; omega
theorem toldB_none {k : Int} : ∀ {l : List PPair} {t : Int}, (¬ ∃ p, p ∈ l ∧ p.a = k) → toldB k l t = t
  | [], t, _ => rfl
  | x :: r, t, h => by
    have hx : ¬ x.a = k := fun e => h ⟨x, List.mem_cons_self .., e⟩
    rw [toldB, show eqI x.a k = false from by rw [eqI_iff]; exact decide_eq_false hx]
    exact toldB_none fun ⟨y, hy, e⟩ => h ⟨y, List.mem_cons_of_mem _ hy, e⟩
theorem toldB_eq {W : List PWord} {k : Int} : ∀ {l : List PPair} {t : Int}, (∀ p, p ∈ l → p.b = cnt p.a W) → (∃ p, p ∈ l ∧ p.a = k) → toldB k l t = cnt k W
  | [], t, _, ⟨p, h, _⟩ => by cases h
  | p :: r, t, hb, ⟨q, hq, he⟩ => by
    rw [toldB]
    by_cases hr : ∃ p, p ∈ r ∧ p.a = k
    · exact toldB_eq (fun x hx => hb x (List.mem_cons_of_mem _ hx)) hr
    · have hqp : q = p := by
        rcases List.mem_cons.1 hq with h | h
        · exact h
        · exact absurd ⟨q, h, he⟩ hr
      subst hqp
      have h0 := hb q (List.mem_cons_self ..)
      rw [show eqI q.a k = true from by rw [eqI_iff]; exact decide_eq_true he]
      simp only [cond_true]
      rw [h0, he]
      exact toldB_none hr
theorem told_all (W : List PWord) (k : Int) : toldB k (sharesL W) 0 = .ofNat (cntN k W) := by
  rw [← cntN_eq]
  by_cases h : ∃ p, p ∈ sharesL W ∧ p.a = k
  · exact toldB_eq (fun p hp => (shares_mem.1 hp).1) h
  · rw [toldB_none h]
    have h0 := (cnt_le k W).1
    rcases Int.lt_or_le 0 (cnt k W) with q | q
    · exact absurd ⟨⟨k, cnt k W⟩, shares_mem.2 ⟨rfl, q⟩, rfl⟩ h
    · omega
def sumV : List (Int × Int) → Int
  | [] => 0
  | p :: r => p.2 + sumV r
theorem sumV_set (j v : Int) : ∀ (m : List (Int × Int)), sumV (setI j v m) = sumV m - getC j m + v
  | [] => by simp [setI, sumV, getC, getI]
  | (k, u) :: r => by
    have ih := sumV_set j v r
    unfold getC at ih ⊢
    unfold setI getI
    cases e : eqI j k with
    | true => simp only [sumV, Option.getD_some]; omega
    | false => simp only [sumV, ih]; omega
theorem sumV_tally : ∀ (ws : List PWord) (m : List (Int × Int)), sumV (tally ws m) = sumV m + .ofNat ws.length
  | [], m => by simp [tally]
  | w :: r, m => by
    rw [tally_cons, sumV_tally r]
    unfold incr
    rw [sumV_set]
    simp only [List.length_cons, Int.ofNat_eq_natCast]; omega
theorem sumB_perm {l m : List PPair} (h : l.Perm m) : sumB l = sumB m := by
  induction h with
  | nil => rfl
  | cons x _ ih => rw [sumB, sumB, ih]
  | swap x y l => simp only [sumB]; omega
  | trans _ _ h1 h2 => rw [h1, h2]
theorem sumB_map : ∀ (m : List (Int × Int)), sumB (m.map pairOf) = sumV m
  | [] => rfl
  | p :: r => by rw [List.map_cons, sumB, sumV, sumB_map r]; rfl
theorem sum_all (W : List PWord) : sumB (sharesL W) = .ofNat W.length := by
  unfold sharesL
  rw [sumB_perm (List.mergeSort_perm _ _), sumB_map, sumV_tally]
  simp [sumV]
end Go.Proofs.YtpcjeaeadhciiaaGreatDoor
