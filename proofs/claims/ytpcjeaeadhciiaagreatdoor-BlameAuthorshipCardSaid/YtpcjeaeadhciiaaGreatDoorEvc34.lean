/- A closed run: the examples that the laws of chapter 34 check; the words' counts by their contract. -/
import Derived.Test.YtpcjeaeadhciiaaGreatDoorHs3
import Derived.Test.YtpcjeaeadhciiaaGreatDoorMach8
namespace Go.Proofs.YtpcjeaeadhciiaaGreatDoor
open Go Go.Ev
abbrev u34 : TUnit := ⟨0, 0, 0, 0, [], [], [], [⟨1, 0, 1, 2, [49], [], [⟨[97], 1, 0, 0⟩, ⟨[99], 2, 0, 0⟩], []⟩]⟩
theorem ok34 : okU u34 := okU_iff.2 ⟨by decide, by decide, by decide, fun k hk => by
  rw [List.mem_singleton.1 hk]
  exact okU_iff.2 ⟨by decide, by decide, by decide, fun k hk => by cases hk⟩⟩
theorem shares34 : [(⟨1, 1⟩ : PPair), ⟨2, 1⟩] = sharesL (allW u34) :=
  shares_perm (List.Perm.refl _) (by rw [show (tally (allW u34) []).map pairOf = [(⟨1, 1⟩ : PPair), ⟨2, 1⟩] by kernel_rfl]) (by decide)
noncomputable abbrev v34 : AV := .ps [.agg [.int .i64 1, .int .i64 1], .agg [.int .i64 2, .int .i64 1]] false
theorem wc34 : HPure Tryz.prog G 18 [eU u34] v34 := by
  have h := wc_ok u34 ok34 (by rw [show (allW u34).length = 2 by kernel_rfl]; decide)
  rw [← shares34] at h
  exact h.lessB (by kernel_rfl)
noncomputable def C34 : Cfg := { P := Tryz.prog, G := G, pol := pol, rounds := 100000, hook := hookL [(18, [eU u34], v34)] }
theorem ev34 (k : Nat) : CallerOK Tryz.prog G (evFunc C34 k) := ev_ok (C := C34) noNG mixed (hookL_ok rfl fun x hx => by rw [List.mem_singleton.1 hx]; exact wc34) k
theorem awake34 : HPure Tryz.prog G 12 [] (.bool true) := HPure.closed (C := C34) (k := 60) gtop (ev34 60) rfl (by kernel_rfl)
end Go.Proofs.YtpcjeaeadhciiaaGreatDoor
