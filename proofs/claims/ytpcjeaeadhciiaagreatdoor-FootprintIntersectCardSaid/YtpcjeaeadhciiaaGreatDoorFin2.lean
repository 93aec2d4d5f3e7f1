/- The law of keys that meet, lifted: for every input the law returns true. Conditions: the row's own. -/
import Derived.Test.YtpcjeaeadhciiaaGreatDoorH35
import Derived.Test.YtpcjeaeadhciiaaGreatDoorEvc25
import Derived.Test.YtpcjeaeadhciiaaGreatDoorKdec
import Derived.Test.YtpcjeaeadhciiaaGreatDoorElaid
import Derived.SevenTiedAt
import Derived.Stop.Joined
namespace Go.Proofs.YtpcjeaeadhciiaaGreatDoor
open Go Go.Ev Go.ChangeShapes Go.RowKit

theorem ownFin : ownKnob Tryz.prog.godebug = none := by kernel_rfl

/-- What is laid, but for the functions. -/
noncomputable def finLaid : List (String × DataW Unit) := Rows.footprintIntersectRow.laid.filter fun x => x.2.handleName?.isNone
noncomputable def finWit (os : Os) : World := (World.doorLaid Tryz.prog 55 os).layVars Tryz.prog finLaid

theorem finWit_plain (os : Os) (args : Array Value) : laidMet Tryz.prog finLaid ((finWit os).forCall (fun _ _ => 0) ⟨#[], args, []⟩).memory := by
  have e1 : (finLaid.filter fun x => (finLaid.map (·.1)).contains x.1) = finLaid := List.filter_eq_self.2 fun x hx => List.contains_iff_mem.2 (List.mem_map.2 ⟨x, hx, rfl⟩)
  have e2 : (finLaid.filter fun x => !(finLaid.map (·.1)).contains x.1) = [] := List.filter_eq_nil_iff.2 fun x hx => by rw [List.contains_iff_mem.2 (List.mem_map.2 ⟨x, hx, rfl⟩)]; simp
  have h : laidMet Tryz.prog finLaid (finWit os) := laidMet_layVars (w0 := World.doorLaid Tryz.prog 55 os) (finLaid.map (·.1)) [] (by rw [e1]; rfl) (by rw [e1]; kernel_rfl) (by rw [e1]; kernel_rfl) (by rw [e2]; exact LaidIn.none)
  exact h.of_heap (by simp [World.memory, World.forCall, Input.heap])

theorem finWit_met (os : Os) (args : Array Value) : laidMetH Tryz.prog Rows.footprintIntersectRow.laid ((finWit os).forCall (fun _ _ => 0) ⟨#[], args, []⟩).memory :=
  laidMetH_of_parts3 (fuel := 8) (finWit_plain os args) (by kernel_rfl) (by kernel_rfl)

set_option maxRecDepth 100000 in
theorem fin_lifted (os : Os) (started : os.Started) (H : Type) (enc : TypeId × Value → H) :
    ReturnsInHanded {} Tryz.checked os 3 .any (fun w args => (Rows.footprintIntersectSpec.pre enc Tryz.prog Tryz.f3 [] false w args ∧ laidMetH Tryz.prog Rows.footprintIntersectRow.laid w) ∧ sizedMet enc Tryz.prog Tryz.f3 (OpenSpec.ofChange Rows.footprintIntersectSpec) false w args)
      (Rows.footprintIntersectSpec.post enc Tryz.prog Tryz.f3 false true false false) := by
  refine returnsInHanded_of_change_and (C := Tryz.checked) (X := fun w _ => laidMetH Tryz.prog Rows.footprintIntersectRow.laid w) (fun _ _ _ hh h => h.of_heap hh) ownFin started (by kernel_rfl) Tryz.func3
    (ChangeSpec.witness_shaped (enc := enc) (C := Tryz.checked) (os := os) (X := fun w _ => laidMetH Tryz.prog Rows.footprintIntersectRow.laid w) false (finWit os) #[.slice none 0 0, .slice none 0 0] 8 (by unfold finWit; rw [World.layVars_os]; rfl)
      (World.shaped_of_ZipB (by kernel_rfl) (by kernel_rfl)) (by kernel_rfl) (by kernel_rfl) (by kernel_rfl) (finWit_met os _)) ?_
  intro W base args ds gs before hval0 hW _ hz hL _
  have hval : ∀ (j : Nat) t v, Tryz.f3.params[j]? = some t → args[j]? = some v → Value.okWide Tryz.prog W .any base t v := hval0
  have hz : (DataW.weightsEach Tryz.prog (Tryz.f3.params.toList ++ Rows.footprintIntersectSpec.plain.varTypes Tryz.prog) (ds ++ gs)).all (· ≤ reachBytes) = true := hz
  have hW' := hW
  obtain ⟨p, q, hA0, hV, rfl, _, _⟩ := hW
  have hA : DataW.TrodAll enc Tryz.prog W 0 (fun _ => true) true Tryz.f3.params.toList args.toList ds p := hA0
  rw [Tryz.params3] at hA hval hz
  obtain ⟨v0, v1, d0, d1, p0, p1, rfl, rfl, rfl, h0, h1⟩ := trodAll_two hA
  obtain ⟨rfl, rfl⟩ := trodVars_none hV
  have conv : ∀ (k : Nat) (v : Value) (d : DataW H) (p : List MemPlace), Tryz.f3.params[k]? = some 22 → Value.okWide Tryz.prog W .any 0 22 v → (∃ fuel, DataW.trod enc Tryz.prog W 0 (fun _ => true) true fuel 22 v.cells.toList = some (d, p)) → Wt Tryz.prog 22 d →
      ∃ l : List PKey, l.length < 2 ^ 60 ∧ VRel (fun _ => none) (memOf W) (.ls (l.map encKey)) v := fun k v d p _ hv h hw => by
    obtain ⟨fuel, h⟩ := h
    obtain ⟨l, hl, _, hvl⟩ := keys_vl h hw
    obtain ⟨v', hv1, hv2⟩ := hvl.one
    refine ⟨l, hl, ?_⟩
    obtain ⟨a, len, cap, rfl⟩ := Go.WideShapes.okWide_slice Tryz.underlying22 hv
    have : v' = .slice a len cap := by simpa [Value.cells] using hv1.symm
    exact this ▸ hv2
  have hw : ∀ (k : Nat) (d : DataW H), [22, 22][k]? = some 22 → [d0, d1][k]? = some d → Wt Tryz.prog 22 d := fun k d e1 e2 m hm => by
    have := List.all_eq_true.1 hz m (weightsEach_mem hm k e1 e2)
    simpa using this
  obtain ⟨a, ha, hva⟩ := conv 0 v0 d0 p0 rfl (hval 0 22 v0 rfl rfl) h0 (hw 0 d0 rfl rfl)
  obtain ⟨b, hb, hvb⟩ := conv 1 v1 d1 p1 rfl (hval 1 22 v1 rfl rfl) h1 (hw 1 d1 rfl rfl)
  have hv : VRels (fun _ => none) (memOf W) [.ls (a.map encKey), .ls (b.map encKey)] #[v0, v1] := ⟨rfl, fun j y hj => by
    match j, hj with
    | 0, hj => simp at hj; subst hj; exact hva
    | 1, hj => simp at hj; subst hj; exact hvb
    | j + 2, hj => simp at hj⟩
  refine (law_run Tryz.func3 (by kernel_rfl) rfl (gok hL (List.mem_of_getElem? (i := 0) rfl) (List.mem_of_getElem? (i := 1) rfl) (List.mem_of_getElem? (i := 2) rfl) (List.mem_of_getElem? (i := 3) rfl)) hv ((fin_law a b ha hb awake25 AHeap.none).mono fun _ _ e => e.1)).mono fun e W' ⟨he, hb⟩ => ?_
  exact ⟨_, he, law_post (tb := 4) (by kernel_rfl) (by kernel_rfl) rfl rfl (by kernel_rfl) (by kernel_rfl) hW' hb⟩

end Go.Proofs.YtpcjeaeadhciiaaGreatDoor
