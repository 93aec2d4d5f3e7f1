/- The law of key texts, lifted: for every input the law returns true. Conditions: the row's own. -/
import Derived.Test.YtjnecjhkmhhnnaaGreatDoorH45
import Derived.Test.YtjnecjhkmhhnnaaGreatDoorEvc25
import Derived.Test.YtjnecjhkmhhnnaaGreatDoorKd64
import Derived.Test.YtjnecjhkmhhnnaaGreatDoorElaidk
import Derived.SevenTiedAt
import Derived.Stop.Joined
namespace Go.Proofs.YtjnecjhkmhhnnaaGreatDoor
open Go Go.Ev Go.ChangeShapes Go.RowKit

theorem ownFky : ownKnob Tryz.prog.godebug = none := by kernel_rfl

/-- What is laid, but for the functions. -/
noncomputable def fkyLaid : List (String × DataW Unit) := Rows.footprintFormatKeyRow.laid.filter fun x => x.2.handleName?.isNone
noncomputable def fkyWit (os : Os) : World := (World.doorLaid Tryz.prog 55 os).layVars Tryz.prog fkyLaid

theorem fkyWit_plain (os : Os) (args : Array Value) : laidMet Tryz.prog fkyLaid ((fkyWit os).forCall (fun _ _ => 0) ⟨#[], args, []⟩).memory := by
  have e1 : (fkyLaid.filter fun x => (fkyLaid.map (·.1)).contains x.1) = fkyLaid := List.filter_eq_self.2 fun x hx => List.contains_iff_mem.2 (List.mem_map.2 ⟨x, hx, rfl⟩)
  have e2 : (fkyLaid.filter fun x => !(fkyLaid.map (·.1)).contains x.1) = [] := List.filter_eq_nil_iff.2 fun x hx => by rw [List.contains_iff_mem.2 (List.mem_map.2 ⟨x, hx, rfl⟩)]; simp
  have h : laidMet Tryz.prog fkyLaid (fkyWit os) := laidMet_layVars (w0 := World.doorLaid Tryz.prog 55 os) (fkyLaid.map (·.1)) [] (by rw [e1]; rfl) (by rw [e1]; kernel_rfl) (by rw [e1]; kernel_rfl) (by rw [e2]; exact LaidIn.none)
  exact h.of_heap (by simp [World.memory, World.forCall, Input.heap])

theorem fkyWit_met (os : Os) (args : Array Value) : laidMetH Tryz.prog Rows.footprintFormatKeyRow.laid ((fkyWit os).forCall (fun _ _ => 0) ⟨#[], args, []⟩).memory :=
  laidMetH_of_parts3 (fuel := 8) (fkyWit_plain os args) (by kernel_rfl) (by kernel_rfl)

set_option maxRecDepth 100000 in
theorem fky_lifted (os : Os) (started : os.Started) (H : Type) (enc : TypeId × Value → H) :
    ReturnsInHanded {} Tryz.checked os 4 .any (fun w args => (Rows.footprintFormatKeySpec.pre enc Tryz.prog Tryz.f4 [] false w args ∧ laidMetH Tryz.prog Rows.footprintFormatKeyRow.laid w) ∧ sizedMet enc Tryz.prog Tryz.f4 (OpenSpec.ofChange Rows.footprintFormatKeySpec) false w args)
      (Rows.footprintFormatKeySpec.post enc Tryz.prog Tryz.f4 false true false false) := by
  refine returnsInHanded_of_change_and (C := Tryz.checked) (X := fun w _ => laidMetH Tryz.prog Rows.footprintFormatKeyRow.laid w) (fun _ _ _ hh h => h.of_heap hh) ownFky started (by kernel_rfl) Tryz.func4
    (ChangeSpec.witness_shaped (enc := enc) (C := Tryz.checked) (os := os) (X := fun w _ => laidMetH Tryz.prog Rows.footprintFormatKeyRow.laid w) false (fkyWit os) #[.agg #[.int .i64 0, .int .i64 0, .int .i64 0, .int .i64 0, .int .i64 0, .string ⟨#[]⟩]] 8 (by unfold fkyWit; rw [World.layVars_os]; rfl)
      (World.shaped_of_ZipB (by kernel_rfl) (by kernel_rfl)) (by kernel_rfl) (by kernel_rfl) (by kernel_rfl) (fkyWit_met os _)) ?_
  intro W base args ds gs before hval0 hW _ hz hL _
  have hval : ∀ (j : Nat) t v, Tryz.f4.params[j]? = some t → args[j]? = some v → Value.okWide Tryz.prog W .any base t v := hval0
  have hz : (DataW.weightsEach Tryz.prog (Tryz.f4.params.toList ++ Rows.footprintFormatKeySpec.plain.varTypes Tryz.prog) (ds ++ gs)).all (· ≤ reachBytes) = true := hz
  have hW' := hW
  obtain ⟨p, q, hA0, hV, rfl, _, _⟩ := hW
  have hA : DataW.TrodAll enc Tryz.prog W 0 (fun _ => true) true Tryz.f4.params.toList args.toList ds p := hA0
  rw [Tryz.params4] at hA hval hz
  obtain ⟨v0, d0, rfl, rfl, h0⟩ := trodAll_one hA
  obtain ⟨rfl, rfl⟩ := trodVars_none hV
  obtain ⟨cs, rfl, hcs⟩ := Go.WideShapes.okWide_struct Tryz.underlying30 (hval 0 30 v0 rfl rfl)
  obtain ⟨fuel, h0⟩ := h0
  have hw0 : Wt Tryz.prog 30 d0 := fun m hm => by
    have := List.all_eq_true.1 hz m (weightsEach_mem hm 0 rfl rfl)
    simpa using this
  obtain ⟨x, ⟨f1, f2, f3, f4⟩, hvl⟩ := key_vl64 h0 hw0
  have hvl : VL (memOf W) (encKey x).cells cs.toList := hvl
  have hv3 : VRel (fun _ => none) (memOf W) (encKey x) (.agg cs) := by
    refine .agg (by simpa [encKey, AV.cells] using hvl.len) (fun y hy => List.all_eq_true.1 (show (encKey x).cells.all scalB = true from rfl) y hy) fun j y hj => ?_
    obtain ⟨v, e, hv⟩ := hvl.at_ j y hj
    rw [Array.getElem?_toList] at e
    rw [Array.getD_eq_getD_getElem?, e]
    exact hv
  have hv : VRels (fun _ => none) (memOf W) [encKey x] #[.agg cs] := ⟨rfl, fun j y hj => by
    match j, hj with
    | 0, hj => simp at hj; subst hj; exact hv3
    | j + 1, hj => simp at hj⟩
  refine (law_run Tryz.func4 (by kernel_rfl) rfl (gok hL (List.mem_of_getElem? (i := 3) rfl) (List.mem_of_getElem? (i := 4) rfl) (List.mem_of_getElem? (i := 5) rfl) (List.mem_of_getElem? (i := 6) rfl) (List.mem_of_getElem? (i := 2) rfl)) hv ((fky_law x f1 f2 f3 f4 awake25 AHeap.none).mono fun _ _ e => e.1)).mono fun e W' ⟨he, hb⟩ => ?_
  exact ⟨_, he, law_post (tb := 4) (by kernel_rfl) (by kernel_rfl) rfl rfl (by kernel_rfl) (by kernel_rfl) hW' hb⟩

end Go.Proofs.YtjnecjhkmhhnnaaGreatDoor
