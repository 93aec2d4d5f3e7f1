/- The law of an engine's capacity: the row and the tied card. For every input the law returns true. Conditions: the row's own. -/
import Derived.Test.YtncndbiboobpdaaGreatDoorEcap2
import Derived.Test.YtncndbiboobpdaaGreatDoorElaid


import Derived.SevenTiedAt
import Derived.Stop.Joined
namespace Go.Proofs.YtncndbiboobpdaaGreatDoor
open Go Go.Ev Go.ChangeShapes Go.RowKit

theorem ownCap : ownKnob Tryz.prog.godebug = none := by kernel_rfl

/-- What is laid, but for the functions. -/
noncomputable def capLaid : List (String × DataW Unit) := Rows.engineCapacityRow.laid.filter fun x => x.2.handleName?.isNone
noncomputable def capWit (os : Os) : World := (World.doorLaid Tryz.prog 40 os).layVars Tryz.prog capLaid

theorem capWit_plain (os : Os) (args : Array Value) : laidMet Tryz.prog capLaid ((capWit os).forCall (fun _ _ => 0) ⟨#[], args, []⟩).memory := by
  have e1 : (capLaid.filter fun x => (capLaid.map (·.1)).contains x.1) = capLaid := List.filter_eq_self.2 fun x hx => List.contains_iff_mem.2 (List.mem_map.2 ⟨x, hx, rfl⟩)
  have e2 : (capLaid.filter fun x => !(capLaid.map (·.1)).contains x.1) = [] := List.filter_eq_nil_iff.2 fun x hx => by rw [List.contains_iff_mem.2 (List.mem_map.2 ⟨x, hx, rfl⟩)]; simp
  have h : laidMet Tryz.prog capLaid (capWit os) := laidMet_layVars (w0 := World.doorLaid Tryz.prog 40 os) (capLaid.map (·.1)) [] (by rw [e1]; rfl) (by rw [e1]; kernel_rfl) (by rw [e1]; kernel_rfl) (by rw [e2]; exact LaidIn.none)
  exact h.of_heap (by simp [World.memory, World.forCall, Input.heap])

theorem capWit_met (os : Os) (args : Array Value) : laidMetH Tryz.prog Rows.engineCapacityRow.laid ((capWit os).forCall (fun _ _ => 0) ⟨#[], args, []⟩).memory :=
  laidMetH_of_parts3 (fuel := 8) (capWit_plain os args) (by kernel_rfl) (by kernel_rfl)

set_option maxRecDepth 100000 in
theorem cap_lifted (os : Os) (started : os.Started) (H : Type) (enc : TypeId × Value → H) :
    ReturnsInHanded {} Tryz.checked os 3 .any (fun w args => (Rows.engineCapacitySpec.pre enc Tryz.prog Tryz.f3 [] false w args ∧ laidMetH Tryz.prog Rows.engineCapacityRow.laid w) ∧ sizedMet enc Tryz.prog Tryz.f3 (OpenSpec.ofChange Rows.engineCapacitySpec) false w args)
      (Rows.engineCapacitySpec.post enc Tryz.prog Tryz.f3 false true false false) := by
  refine returnsInHanded_of_change_and (C := Tryz.checked) (X := fun w _ => laidMetH Tryz.prog Rows.engineCapacityRow.laid w) (fun _ _ _ hh h => h.of_heap hh) ownCap started (by kernel_rfl) Tryz.func3
    (ChangeSpec.witness_shaped (enc := enc) (C := Tryz.checked) (os := os) (X := fun w _ => laidMetH Tryz.prog Rows.engineCapacityRow.laid w) false (capWit os) #[.int .u16 0] 8 (by unfold capWit; rw [World.layVars_os]; rfl)
      (World.shaped_of_ZipB (by kernel_rfl) (by kernel_rfl)) (by kernel_rfl) (by kernel_rfl) (by kernel_rfl) (capWit_met os _)) ?_
  intro W base args ds gs before hval0 hW _ _ hL _
  have hval : ∀ (j : Nat) t v, Tryz.f3.params[j]? = some t → args[j]? = some v → Value.okWide Tryz.prog W .any base t v := hval0
  have hW' := hW
  obtain ⟨p, q, hA0, hV, rfl, _, _⟩ := hW
  have hA : DataW.TrodAll enc Tryz.prog W 0 (fun _ => true) true Tryz.f3.params.toList args.toList ds p := hA0
  rw [Tryz.params3] at hA hval
  obtain ⟨v0, d0, rfl, rfl, h0⟩ := trodAll_one hA
  obtain ⟨rfl, rfl⟩ := trodVars_none hV
  obtain ⟨x, rfl, rfl, rfl, wx⟩ := open_int Tryz.underlying22 (hval 0 22 v0 rfl rfl) h0
  have hx : 0 ≤ x ∧ x < 65536 := by
    simp [Lit.wf, IntKind.min, IntKind.max, IntKind.bits, IntKind.signed] at wx
    omega
  obtain ⟨k, rfl⟩ : ∃ k : Nat, x = Int.ofNat k := ⟨x.toNat, by simp; omega⟩
  have hk : k < 65536 := by have := hx.2; simp at this; omega
  have hv : VRels (fun _ => none) (memOf W) [.int .u16 (Int.ofNat k)] #[.int .u16 (Int.ofNat k)] := ⟨rfl, fun j y hj => by
    cases j with
    | zero => simp at hj; subst hj; exact .int _ _
    | succ j => simp at hj⟩
  refine (law_run Tryz.func3 (by kernel_rfl) rfl (gok hL (.head _) (.tail _ (.head _)) (.tail _ (.tail _ (.head _))) (.tail _ (.tail _ (.tail _ (.head _))))) hv (cap_ok k hk)).mono fun e W' ⟨he, hb⟩ => ?_
  exact ⟨_, he, law_post (tb := 4) (by kernel_rfl) (by kernel_rfl) rfl rfl (by kernel_rfl) (by kernel_rfl) hW' hb⟩

end Go.Proofs.YtncndbiboobpdaaGreatDoor
