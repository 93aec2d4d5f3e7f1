/- The law of the parts of a count, lifted: for every input the law returns true. Conditions: the row's own. -/
import Derived.Test.YtanaaiebgbpieaaGreatDoorHs4
import Derived.Test.YtanaaiebgbpieaaGreatDoorEvc34
import Derived.Test.YtanaaiebgbpieaaGreatDoorRdec
import Derived.Test.YtanaaiebgbpieaaGreatDoorElaid
import Derived.SevenTiedAt
import Derived.Stop.Joined
namespace Go.Proofs.YtanaaiebgbpieaaGreatDoor
open Go Go.Ev Go.ChangeShapes Go.RowKit

theorem ownSub : ownKnob Tryz.prog.godebug = none := by kernel_rfl

/-- What is laid, but for the functions. -/
noncomputable def subLaid : List (String × DataW Unit) := Rows.blameSubtreesRow.laid.filter fun x => x.2.handleName?.isNone
noncomputable def subWit (os : Os) : World := (World.doorLaid Tryz.prog 55 os).layVars Tryz.prog subLaid

theorem subWit_plain (os : Os) (args : Array Value) : laidMet Tryz.prog subLaid ((subWit os).forCall (fun _ _ => 0) ⟨#[], args, []⟩).memory := by
  have e1 : (subLaid.filter fun x => (subLaid.map (·.1)).contains x.1) = subLaid := List.filter_eq_self.2 fun x hx => List.contains_iff_mem.2 (List.mem_map.2 ⟨x, hx, rfl⟩)
  have e2 : (subLaid.filter fun x => !(subLaid.map (·.1)).contains x.1) = [] := List.filter_eq_nil_iff.2 fun x hx => by rw [List.contains_iff_mem.2 (List.mem_map.2 ⟨x, hx, rfl⟩)]; simp
  have h : laidMet Tryz.prog subLaid (subWit os) := laidMet_layVars (w0 := World.doorLaid Tryz.prog 55 os) (subLaid.map (·.1)) [] (by rw [e1]; rfl) (by rw [e1]; kernel_rfl) (by rw [e1]; kernel_rfl) (by rw [e2]; exact LaidIn.none)
  exact h.of_heap (by simp [World.memory, World.forCall, Input.heap])

theorem subWit_met (os : Os) (args : Array Value) : laidMetH Tryz.prog Rows.blameSubtreesRow.laid ((subWit os).forCall (fun _ _ => 0) ⟨#[], args, []⟩).memory :=
  laidMetH_of_parts3 (fuel := 8) (subWit_plain os args) (by kernel_rfl) (by kernel_rfl)

set_option maxRecDepth 100000 in
theorem sub_lifted (os : Os) (started : os.Started) (H : Type) (enc : TypeId × Value → H) :
    ReturnsInHanded {} Tryz.checked os 3 .any (fun w args => (Rows.blameSubtreesSpec.pre enc Tryz.prog Tryz.f3 [] false w args ∧ laidMetH Tryz.prog Rows.blameSubtreesRow.laid w) ∧ sizedMet enc Tryz.prog Tryz.f3 (OpenSpec.ofChange Rows.blameSubtreesSpec) false w args)
      (Rows.blameSubtreesSpec.post enc Tryz.prog Tryz.f3 false true false false) := by
  refine returnsInHanded_of_change_and (C := Tryz.checked) (X := fun w _ => laidMetH Tryz.prog Rows.blameSubtreesRow.laid w) (fun _ _ _ hh h => h.of_heap hh) ownSub started (by kernel_rfl) Tryz.func3
    (ChangeSpec.witness_shaped (enc := enc) (C := Tryz.checked) (os := os) (X := fun w _ => laidMetH Tryz.prog Rows.blameSubtreesRow.laid w) false (subWit os) #[.agg #[.int .i64 0, .int .i64 0, .int .i64 0, .int .i64 0, .string ⟨#[]⟩, .slice none 0 0, .slice none 0 0, .slice none 0 0], .int .i64 0] 8 (by unfold subWit; rw [World.layVars_os]; rfl)
      (World.shaped_of_ZipB (by kernel_rfl) (by kernel_rfl)) (by kernel_rfl) (by kernel_rfl) (by kernel_rfl) (subWit_met os _)) ?_
  intro W base args ds gs before hval0 hW _ hz hL _
  have hval : ∀ (j : Nat) t v, Tryz.f3.params[j]? = some t → args[j]? = some v → Value.okWide Tryz.prog W .any base t v := hval0
  have hz : (DataW.weightsEach Tryz.prog (Tryz.f3.params.toList ++ Rows.blameSubtreesSpec.plain.varTypes Tryz.prog) (ds ++ gs)).all (· ≤ reachBytes) = true := hz
  have hW' := hW
  obtain ⟨p, q, hA0, hV, rfl, _, _⟩ := hW
  have hA : DataW.TrodAll enc Tryz.prog W 0 (fun _ => true) true Tryz.f3.params.toList args.toList ds p := hA0
  rw [Tryz.params3] at hA hval hz
  obtain ⟨v0, v1, d0, d1, p0, p1, rfl, rfl, rfl, h0, h1⟩ := trodAll_two hA
  obtain ⟨rfl, rfl⟩ := trodVars_none hV
  obtain ⟨x, rfl, rfl, rfl, _⟩ := open_int Tryz.underlying3 (hval 1 3 v1 rfl rfl) h1
  obtain ⟨cs, rfl, hcs⟩ := Go.WideShapes.okWide_struct Tryz.underlying27 (hval 0 27 v0 rfl rfl)
  obtain ⟨fuel, h0⟩ := h0
  have hw0 : Wt Tryz.prog 27 d0 := fun m hm => by
    have := List.all_eq_true.1 hz m (weightsEach_mem hm 0 rfl rfl)
    simpa using this
  obtain ⟨u, hfit, hvl⟩ := unit_vl fuel h0 hw0
  have hvl : VL (memOf W) (cU u) cs.toList := hvl
  have hv3 : VRel (fun _ => none) (memOf W) (eU u) (.agg cs) := by
    refine .agg (by simpa using hvl.len) (fun y hy => List.all_eq_true.1 (show (cU u).all scalB = true from rfl) y hy) fun j y hj => ?_
    obtain ⟨v, e, hv⟩ := hvl.at_ j y hj
    rw [Array.getElem?_toList] at e
    rw [Array.getD_eq_getD_getElem?, e]
    exact hv
  have hv : VRels (fun _ => none) (memOf W) [eU u, .int .i64 x] #[.agg cs, .int .i64 x] := ⟨rfl, fun j y hj => by
    match j, hj with
    | 0, hj => simp at hj; subst hj; exact hv3
    | 1, hj => simp at hj; subst hj; exact .int _ _
    | j + 2, hj => simp at hj⟩
  refine (law_run Tryz.func3 (by kernel_rfl) rfl (gok hL (List.mem_of_getElem? (i := 3) rfl) (List.mem_of_getElem? (i := 4) rfl) (List.mem_of_getElem? (i := 5) rfl) (List.mem_of_getElem? (i := 6) rfl)) hv ((sub_law u x hfit awake34 AHeap.none).mono fun _ _ e => e.1)).mono fun e W' ⟨he, hb⟩ => ?_
  exact ⟨_, he, law_post (tb := 4) (by kernel_rfl) (by kernel_rfl) rfl rfl (by kernel_rfl) (by kernel_rfl) hW' hb⟩

end Go.Proofs.YtanaaiebgbpieaaGreatDoor
