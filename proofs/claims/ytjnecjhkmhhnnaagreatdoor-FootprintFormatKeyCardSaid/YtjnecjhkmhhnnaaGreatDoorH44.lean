import Derived.Test.YtjnecjhkmhhnnaaGreatDoorH43
import Derived.Test.YtjnecjhkmhhnnaaGreatDoorMach8
namespace Go.Proofs.YtjnecjhkmhhnnaaGreatDoor
open Go Go.Ev
def i64 (n : Int) : Prop := -9223372036854775808 ≤ n ∧ n ≤ 9223372036854775807
theorem itoa_le {n : Int} (h : i64 n) : (Lib.itoa n).length ≤ 30 := by
  obtain ⟨h1, h2⟩ := h
  by_cases hn : n < 0
  · exact itoa_len h1 hn
  · have e : Lib.itoa n = Lib.decDigits n.toNat := by unfold Lib.itoa; rw [if_neg hn]
    have := dig_len (m := n.toNat) (by omega)
    rw [e]; omega
theorem text1_le (s : PStep) (hl : s.label.length ≤ 100) (hk : 0 ≤ s.kind ∧ s.kind ≤ 7) : (text1 s).length ≤ 2 ^ 40 := by
  have hn : (kindNm s.kind).length ≤ 20 := by
    obtain ⟨h1, h2⟩ := hk
    rcases (by omega : s.kind = 0 ∨ s.kind = 1 ∨ s.kind = 2 ∨ s.kind = 3 ∨ s.kind = 4 ∨ s.kind = 5 ∨ s.kind = 6 ∨ s.kind = 7) with h | h | h | h | h | h | h | h <;> rw [h] <;> decide
  unfold text1
  cases addrB [s] <;> cases abookB s <;> simp only [cond_true, cond_false, List.length_append, List.length_cons, List.length_nil] <;> omega
theorem addr_kind {s : PStep} (h : addrB [s] = true) : 0 ≤ s.kind ∧ s.kind ≤ 7 := by
  rw [adr1] at h
  rcases Bool.or_eq_true_iff.1 h with h | h
  · have := eqI_t (Bool.and_eq_true_iff.1 h).1; omega
  · obtain ⟨h1, h2⟩ := Bool.and_eq_true_iff.1 h
    obtain ⟨h2, _⟩ := Bool.and_eq_true_iff.1 h2
    have := ltI_true h1
    have := ltI_false (of_bnotT h2)
    omega
theorem step_eq (nk : Int) (nl : Str) (hl : nl.length ≤ 100) : ∃ T : Str, T.length ≤ 2 ^ 40 ∧ HPure Tryz.prog G 28 [.ps [.agg [.int .i64 nk, .str nl]] true] (.str T) ∧ HPure Tryz.prog G 30 [.ps [.agg [.int .i64 nk, .str nl]] true] (.str T) := by
  have h39 : nl.length ≤ 2 ^ 39 := by omega
  cases hb : addrB [⟨nk, nl⟩] with
  | false => exact ⟨[], by simp, formatB_ok ⟨nk, nl⟩ h39 hb, rtextB_ok ⟨nk, nl⟩ h39 hb⟩
  | true =>
    have hk := addr_kind hb
    have hle := text1_le ⟨nk, nl⟩ hl hk
    refine ⟨text1 ⟨nk, nl⟩, hle, ?_⟩
    obtain ⟨h1, h2⟩ : 0 ≤ nk ∧ nk ≤ 7 := hk
    rcases (by omega : nk = 0 ∨ nk = 1 ∨ nk = 2 ∨ nk = 3 ∨ nk = 4 ∨ nk = 5 ∨ nk = 6 ∨ nk = 7) with h | h | h | h | h | h | h | h <;> subst h
    · have hn : nl = [] := by
        rw [adr1] at hb
        rcases Bool.or_eq_true_iff.1 hb with h | h
        · exact eqB_t (Bool.and_eq_true_iff.1 h).2
        · cases (Bool.and_eq_true_iff.1 h).1
      subst hn
      exact ⟨format0_ok, rtext0_ok [] h39 hb⟩
    · exact ⟨format1_ok nl h39 hb, rtext1_ok nl h39 hb⟩
    · exact ⟨format2_ok nl h39 hb, rtext2_ok nl h39 hb⟩
    · exact ⟨format3_ok nl h39 hb, rtext3_ok nl h39 hb⟩
    · exact ⟨format4_ok nl h39 hb, rtext4_ok nl h39 hb⟩
    · exact ⟨format5_ok nl h39 hb, rtext5_ok nl h39 hb⟩
    · exact ⟨format6_ok nl h39 hb, rtext6_ok nl h39 hb⟩
    · exact ⟨format7_ok nl h39 hb, rtext7_ok nl h39 hb⟩
theorem fky_eq (k a b n nk : Int) (nl : Str) (hl : nl.length ≤ 100) (ha : i64 a) (hb : i64 b) (hn : i64 n) : ∃ T : Str, HPure Tryz.prog G 10 [encKey ⟨k, a, b, n, nk, nl⟩] (.str T) ∧ HPure Tryz.prog G 11 [encKey ⟨k, a, b, n, nk, nl⟩] (.str T) := by
  have ia := itoa_ok a ha.1 ha.2; have ib := itoa_ok b hb.1 hb.2; have ic := itoa_ok n hn.1 hn.2
  have da := rdg_ok a ha.1 ha.2; have db := rdg_ok b hb.1 hb.2; have dc := rdg_ok n hn.1 hn.2
  rcases (by omega : k = 0 ∨ k = 1 ∨ k = 2 ∨ k = 3 ∨ k < 0 ∨ 3 < k) with h | h | h | h | h | h
  · subst h; exact ⟨_, fk0_ok a b n nk nl _ _ _ ia ib ic (itoa_le ha) (itoa_le hb) (itoa_le hn), tk0_ok a b n nk nl _ _ _ da db dc (itoa_le ha) (itoa_le hb) (itoa_le hn)⟩
  · subst h; exact ⟨_, fk1_ok a b n nk nl _ _ _ ia ib ic (itoa_le ha) (itoa_le hb) (itoa_le hn), tk1_ok a b n nk nl _ _ _ da db dc (itoa_le ha) (itoa_le hb) (itoa_le hn)⟩
  · subst h; exact ⟨_, fk2_ok a b n nk nl _ _ _ ia ib ic (itoa_le ha) (itoa_le hb) (itoa_le hn), tk2_ok a b n nk nl _ _ _ da db dc (itoa_le ha) (itoa_le hb) (itoa_le hn)⟩
  · subst h
    obtain ⟨T, h1, h2, h3⟩ := step_eq nk nl hl
    exact ⟨_, fk3_ok a b n nk nl T h2 h1, tk3_ok a b n nk nl T h3 h1⟩
  · exact ⟨[], fkX_ok k a b n nk nl (.inl h), tkL_ok k a b n nk nl h⟩
  · exact ⟨[], fkX_ok k a b n nk nl (.inr h), tkH_ok k a b n nk nl h⟩
end Go.Proofs.YtjnecjhkmhhnnaaGreatDoor
