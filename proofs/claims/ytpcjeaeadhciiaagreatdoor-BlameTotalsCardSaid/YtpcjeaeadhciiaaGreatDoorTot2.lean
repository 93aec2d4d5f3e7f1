/- The law of the totals of a count, lifted: for every input the law returns true. Conditions: the row's own. -/
import Derived.Test.YtpcjeaeadhciiaaGreatDoorHt7
import Derived.Test.YtpcjeaeadhciiaaGreatDoorEvc34
import Derived.Test.YtpcjeaeadhciiaaGreatDoorRdec
import Derived.Test.YtpcjeaeadhciiaaGreatDoorElaid
import Derived.SevenTiedAt
import Derived.Stop.Joined
namespace Go.Proofs.YtpcjeaeadhciiaaGreatDoor
open Go Go.Ev Go.ChangeShapes Go.RowKit

theorem ownTot : ownKnob Tryz.prog.godebug = none := by kernel_rfl

/-- What is laid, but for the functions. -/
noncomputable def totLaid : List (String × DataW Unit) := Rows.blameTotalsRow.laid.filter fun x => x.2.handleName?.isNone
noncomputable def totWit (os : Os) : World := (World.doorLaid Tryz.prog 55 os).layVars Tryz.prog totLaid

theorem totWit_plain (os : Os) (args : Array Value) : laidMet Tryz.prog totLaid ((totWit os).forCall (fun _ _ => 0) ⟨#[], args, []⟩).memory := by
  have e1 : (totLaid.filter fun x => (totLaid.map (·.1)).contains x.1) = totLaid := List.filter_eq_self.2 fun x hx => List.contains_iff_mem.2 (List.mem_map.2 ⟨x, hx, rfl⟩)
  have e2 : (totLaid.filter fun x => !(totLaid.map (·.1)).contains x.1) = [] := List.filter_eq_nil_iff.2 fun x hx => by rw [List.contains_iff_mem.2 (List.mem_map.2 ⟨x, hx, rfl⟩)]; simp
  have h : laidMet Tryz.prog totLaid (totWit os) := laidMet_layVars (w0 := World.doorLaid Tryz.prog 55 os) (totLaid.map (·.1)) [] (by rw [e1]; rfl) (by rw [e1]; kernel_rfl) (by rw [e1]; kernel_rfl) (by rw [e2]; exact LaidIn.none)
  exact h.of_heap (by simp [World.memory, World.forCall, Input.heap])

theorem totWit_met (os : Os) (args : Array Value) : laidMetH Tryz.prog Rows.blameTotalsRow.laid ((totWit os).forCall (fun _ _ => 0) ⟨#[], args, []⟩).memory :=
  laidMetH_of_parts3 (fuel := 8) (totWit_plain os args) (by kernel_rfl) (by kernel_rfl)

set_option maxRecDepth 100000 in
theorem tot_lifted (os : Os) (started : os.Started) (H : Type) (enc : TypeId × Value → H) :
    ReturnsInHanded {} Tryz.checked os 6 .any (fun w args => (Rows.blameTotalsSpec.pre enc Tryz.prog Tryz.f6 [] false w args ∧ laidMetH Tryz.prog Rows.blameTotalsRow.laid w) ∧ sizedMet enc Tryz.prog Tryz.f6 (OpenSpec.ofChange Rows.blameTotalsSpec) false w args)
      (Rows.blameTotalsSpec.post enc Tryz.prog Tryz.f6 false true false false) := by
  refine returnsInHanded_of_change_and (C := Tryz.checked) (X := fun w _ => laidMetH Tryz.prog Rows.blameTotalsRow.laid w) (fun _ _ _ hh h => h.of_heap hh) ownTot started (by kernel_rfl) Tryz.func6
    (ChangeSpec.witness_shaped (enc := enc) (C := Tryz.checked) (os := os) (X := fun w _ => laidMetH Tryz.prog Rows.blameTotalsRow.laid w) false (totWit os) #[.agg #[.int .i64 0, .int .i64 0, .int .i64 0, .int .i64 0, .string ⟨#[]⟩, .slice none 0 0, .slice none 0 0, .slice none 0 0], .int .i64 0] 8 (by unfold totWit; rw [World.layVars_os]; rfl)
      (World.shaped_of_ZipB (by kernel_rfl) (by kernel_rfl)) (by kernel_rfl) (by kernel_rfl) (by kernel_rfl) (totWit_met os _)) ?_
  intro W base args ds gs before hval0 hW _ hz hL _
  have hval : ∀ (j : Nat) t v, Tryz.f6.params[j]? = some t → args[j]? = some v → Value.okWide Tryz.prog W .any base t v := hval0
  have hz : (DataW.weightsEach Tryz.prog (Tryz.f6.params.toList ++ Rows.blameTotalsSpec.plain.varTypes Tryz.prog) (ds ++ gs)).all (· ≤ reachBytes) = true := hz
  have hW' := hW
  obtain ⟨p, q, hA0, hV, rfl, _, _⟩ := hW
  have hA : DataW.TrodAll enc Tryz.prog W 0 (fun _ => true) true Tryz.f6.params.toList args.toList ds p := hA0
  rw [Tryz.params6] at hA hval hz
  obtain ⟨v0, v1, d0, d1, p0, p1, rfl, rfl, rfl, h0, h1⟩ := trodAll_two hA
  obtain ⟨rfl, rfl⟩ := trodVars_none hV
  obtain ⟨x, rfl, rfl, rfl, _⟩ := open_int Tryz.underlying3 (hval 1 3 v1 rfl rfl) h1
  obtain ⟨cs, rfl, hcs⟩ := Go.WideShapes.okWide_struct Tryz.underlying36 (hval 0 36 v0 rfl rfl)
  obtain ⟨fuel, h0⟩ := h0
  have hw0 : Wt Tryz.prog 36 d0 := fun m hm => by
    have := List.all_eq_true.1 hz m (weightsEach_mem hm 0 rfl rfl)
    simpa using this
  obtain ⟨u, hfit, hvl⟩ := unit_vl fuel h0 hw0
  have hvl : VL (memOf W) (cU u) cs.toList := hvl
  have hv3 : VRel (fun _ => none) (memOf W) (eU u) (.agg cs) := by
    refine .agg (by simpa using hvl.len) (fun y hy => List.all_eq_true.1 (show (cU u).all scalB = true from rfl) y hy) fun j y hj => ?_
    obtain ⟨v, e, hv⟩ := hvl.at_ j y hj
    rw [Array.getElem?_toList] at e
    rw [Array.getD_eq_getD_getElem?, e]
    exact hv
  have hv : VRels (fun _ => none) (memOf W) [eU u, .int .i64 x] #[.agg cs, .int .i64 x] := ⟨rfl, fun j y hj => by
    match j, hj with
    | 0, hj => simp at hj; subst hj; exact hv3
    | 1, hj => simp at hj; subst hj; exact .int _ _
    | j + 2, hj => simp at hj⟩
  refine (law_run Tryz.func6 (by kernel_rfl) rfl (gok hL (List.mem_of_getElem? (i := 3) rfl) (List.mem_of_getElem? (i := 4) rfl) (List.mem_of_getElem? (i := 5) rfl) (List.mem_of_getElem? (i := 6) rfl)) hv ((tot_law u x hfit awake34 AHeap.none).mono fun _ _ e => e.1)).mono fun e W' ⟨he, hb⟩ => ?_
  exact ⟨_, he, law_post (tb := 4) (by kernel_rfl) (by kernel_rfl) rfl rfl (by kernel_rfl) (by kernel_rfl) hW' hb⟩

end Go.Proofs.YtpcjeaeadhciiaaGreatDoor
