/- The law of the authors and the counts, lifted: for every input the law returns true. Conditions: the row's own. -/
import Derived.Test.YtpcjeaeadhciiaaGreatDoorHt6
import Derived.Test.YtpcjeaeadhciiaaGreatDoorEvc34
import Derived.Test.YtpcjeaeadhciiaaGreatDoorRdec
import Derived.Test.YtpcjeaeadhciiaaGreatDoorElaid
import Derived.SevenTiedAt
import Derived.Stop.Joined
namespace Go.Proofs.YtpcjeaeadhciiaaGreatDoor
open Go Go.Ev Go.ChangeShapes Go.RowKit

theorem ownAut : ownKnob Tryz.prog.godebug = none := by kernel_rfl

/-- What is laid, but for the functions. -/
noncomputable def autLaid : List (String × DataW Unit) := Rows.blameAuthorshipRow.laid.filter fun x => x.2.handleName?.isNone
noncomputable def autWit (os : Os) : World := (World.doorLaid Tryz.prog 55 os).layVars Tryz.prog autLaid

theorem autWit_plain (os : Os) (args : Array Value) : laidMet Tryz.prog autLaid ((autWit os).forCall (fun _ _ => 0) ⟨#[], args, []⟩).memory := by
  have e1 : (autLaid.filter fun x => (autLaid.map (·.1)).contains x.1) = autLaid := List.filter_eq_self.2 fun x hx => List.contains_iff_mem.2 (List.mem_map.2 ⟨x, hx, rfl⟩)
  have e2 : (autLaid.filter fun x => !(autLaid.map (·.1)).contains x.1) = [] := List.filter_eq_nil_iff.2 fun x hx => by rw [List.contains_iff_mem.2 (List.mem_map.2 ⟨x, hx, rfl⟩)]; simp
  have h : laidMet Tryz.prog autLaid (autWit os) := laidMet_layVars (w0 := World.doorLaid Tryz.prog 55 os) (autLaid.map (·.1)) [] (by rw [e1]; rfl) (by rw [e1]; kernel_rfl) (by rw [e1]; kernel_rfl) (by rw [e2]; exact LaidIn.none)
  exact h.of_heap (by simp [World.memory, World.forCall, Input.heap])

theorem autWit_met (os : Os) (args : Array Value) : laidMetH Tryz.prog Rows.blameAuthorshipRow.laid ((autWit os).forCall (fun _ _ => 0) ⟨#[], args, []⟩).memory :=
  laidMetH_of_parts3 (fuel := 8) (autWit_plain os args) (by kernel_rfl) (by kernel_rfl)

set_option maxRecDepth 100000 in
theorem aut_lifted (os : Os) (started : os.Started) (H : Type) (enc : TypeId × Value → H) :
    ReturnsInHanded {} Tryz.checked os 5 .any (fun w args => (Rows.blameAuthorshipSpec.pre enc Tryz.prog Tryz.f5 [] false w args ∧ laidMetH Tryz.prog Rows.blameAuthorshipRow.laid w) ∧ sizedMet enc Tryz.prog Tryz.f5 (OpenSpec.ofChange Rows.blameAuthorshipSpec) false w args)
      (Rows.blameAuthorshipSpec.post enc Tryz.prog Tryz.f5 false true false false) := by
  refine returnsInHanded_of_change_and (C := Tryz.checked) (X := fun w _ => laidMetH Tryz.prog Rows.blameAuthorshipRow.laid w) (fun _ _ _ hh h => h.of_heap hh) ownAut started (by kernel_rfl) Tryz.func5
    (ChangeSpec.witness_shaped (enc := enc) (C := Tryz.checked) (os := os) (X := fun w _ => laidMetH Tryz.prog Rows.blameAuthorshipRow.laid w) false (autWit os) #[.agg #[.int .i64 0, .int .i64 0, .int .i64 0, .int .i64 0, .string ⟨#[]⟩, .slice none 0 0, .slice none 0 0, .slice none 0 0], .agg #[.int .i64 0, .int .i64 0, .int .i64 0], .int .i64 0] 8 (by unfold autWit; rw [World.layVars_os]; rfl)
      (World.shaped_of_ZipB (by kernel_rfl) (by kernel_rfl)) (by kernel_rfl) (by kernel_rfl) (by kernel_rfl) (autWit_met os _)) ?_
  intro W base args ds gs before hval0 hW _ hz hL _
  have hval : ∀ (j : Nat) t v, Tryz.f5.params[j]? = some t → args[j]? = some v → Value.okWide Tryz.prog W .any base t v := hval0
  have hz : (DataW.weightsEach Tryz.prog (Tryz.f5.params.toList ++ Rows.blameAuthorshipSpec.plain.varTypes Tryz.prog) (ds ++ gs)).all (· ≤ reachBytes) = true := hz
  have hW' := hW
  obtain ⟨p, q, hA0, hV, rfl, _, _⟩ := hW
  have hA : DataW.TrodAll enc Tryz.prog W 0 (fun _ => true) true Tryz.f5.params.toList args.toList ds p := hA0
  rw [Tryz.params5] at hA hval hz
  obtain ⟨v0, v1, v2, d0, d1, d2, p0, p1, p2, rfl, rfl, rfl, h0, h1, h2⟩ := trodAll_three hA
  obtain ⟨rfl, rfl⟩ := trodVars_none hV
  obtain ⟨x, rfl, rfl, rfl, _⟩ := open_int Tryz.underlying3 (hval 2 3 v2 rfl rfl) h2
  obtain ⟨cs, rfl, hcs⟩ := Go.WideShapes.okWide_struct Tryz.underlying36 (hval 0 36 v0 rfl rfl)
  obtain ⟨is, rfl, his⟩ := Go.WideShapes.okWide_struct Tryz.underlying26 (hval 1 26 v1 rfl rfl)
  obtain ⟨fuel, h0⟩ := h0
  obtain ⟨fuel1, h1⟩ := h1
  have hw0 : Wt Tryz.prog 36 d0 := fun m hm => by
    have := List.all_eq_true.1 hz m (weightsEach_mem hm 0 rfl rfl)
    simpa using this
  obtain ⟨u, hfit, hvl⟩ := unit_vl fuel h0 hw0
  have hw1 : Wt Tryz.prog 26 d1 := fun m hm => by
    have := List.all_eq_true.1 hz m (weightsEach_mem hm 1 rfl rfl)
    simpa using this
  obtain ⟨a, b, c, hid⟩ := id_vl h1 hw1
  have hvl : VL (memOf W) (cU u) cs.toList := hvl
  have hid : VL (memOf W) [.int .i64 a, .int .i64 b, .int .i64 c] is.toList := hid
  have agg : ∀ (l : List AV) (ys : Array Value), l.all scalB = true → VL (memOf W) l ys.toList → VRel (fun _ => none) (memOf W) (.agg l) (.agg ys) := fun l ys hs h => by
    refine .agg (by simpa using h.len) (fun y hy => List.all_eq_true.1 hs y hy) fun j y hj => ?_
    obtain ⟨v, e, hv⟩ := h.at_ j y hj
    rw [Array.getElem?_toList] at e
    rw [Array.getD_eq_getD_getElem?, e]
    exact hv
  have hv3 : VRel (fun _ => none) (memOf W) (eU u) (.agg cs) := agg _ _ rfl hvl
  have hv4 : VRel (fun _ => none) (memOf W) (encPid ⟨a, b, c⟩) (.agg is) := agg _ _ rfl hid
  have hv : VRels (fun _ => none) (memOf W) [eU u, encPid ⟨a, b, c⟩, .int .i64 x] #[.agg cs, .agg is, .int .i64 x] := ⟨rfl, fun j y hj => by
    match j, hj with
    | 0, hj => simp at hj; subst hj; exact hv3
    | 1, hj => simp at hj; subst hj; exact hv4
    | 2, hj => simp at hj; subst hj; exact .int _ _
    | j + 3, hj => simp at hj⟩
  refine (law_run Tryz.func5 (by kernel_rfl) rfl (gok hL (List.mem_of_getElem? (i := 3) rfl) (List.mem_of_getElem? (i := 4) rfl) (List.mem_of_getElem? (i := 5) rfl) (List.mem_of_getElem? (i := 6) rfl)) hv ((auth_law u ⟨a, b, c⟩ x hfit awake34 AHeap.none).mono fun _ _ e => e.1)).mono fun e W' ⟨he, hb⟩ => ?_
  exact ⟨_, he, law_post (tb := 4) (by kernel_rfl) (by kernel_rfl) rfl rfl (by kernel_rfl) (by kernel_rfl) hW' hb⟩

end Go.Proofs.YtpcjeaeadhciiaaGreatDoor
