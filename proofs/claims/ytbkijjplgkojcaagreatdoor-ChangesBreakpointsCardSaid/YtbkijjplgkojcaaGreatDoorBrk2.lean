/- The law of the breakpoints, lifted: for every input the law returns true. Conditions: the row's own. -/
import Derived.Test.YtbkijjplgkojcaaGreatDoorH84
import Derived.Test.YtbkijjplgkojcaaGreatDoorEvc31
import Derived.Test.YtbkijjplgkojcaaGreatDoorRdec
import Derived.Test.YtbkijjplgkojcaaGreatDoorElaid
import Derived.SevenTiedAt
import Derived.Stop.Joined
namespace Go.Proofs.YtbkijjplgkojcaaGreatDoor
open Go Go.Ev Go.ChangeShapes Go.RowKit

theorem ownBrk : ownKnob Tryz.prog.godebug = none := by kernel_rfl

/-- What is laid, but for the functions. -/
noncomputable def brkLaid : List (String × DataW Unit) := Rows.changesBreakpointsRow.laid.filter fun x => x.2.handleName?.isNone
noncomputable def brkWit (os : Os) : World := (World.doorLaid Tryz.prog 40 os).layVars Tryz.prog brkLaid

theorem brkWit_plain (os : Os) (args : Array Value) : laidMet Tryz.prog brkLaid ((brkWit os).forCall (fun _ _ => 0) ⟨#[], args, []⟩).memory := by
  have e1 : (brkLaid.filter fun x => (brkLaid.map (·.1)).contains x.1) = brkLaid := List.filter_eq_self.2 fun x hx => List.contains_iff_mem.2 (List.mem_map.2 ⟨x, hx, rfl⟩)
  have e2 : (brkLaid.filter fun x => !(brkLaid.map (·.1)).contains x.1) = [] := List.filter_eq_nil_iff.2 fun x hx => by rw [List.contains_iff_mem.2 (List.mem_map.2 ⟨x, hx, rfl⟩)]; simp
  have h : laidMet Tryz.prog brkLaid (brkWit os) := laidMet_layVars (w0 := World.doorLaid Tryz.prog 40 os) (brkLaid.map (·.1)) [] (by rw [e1]; rfl) (by rw [e1]; kernel_rfl) (by rw [e1]; kernel_rfl) (by rw [e2]; exact LaidIn.none)
  exact h.of_heap (by simp [World.memory, World.forCall, Input.heap])

theorem brkWit_met (os : Os) (args : Array Value) : laidMetH Tryz.prog Rows.changesBreakpointsRow.laid ((brkWit os).forCall (fun _ _ => 0) ⟨#[], args, []⟩).memory :=
  laidMetH_of_parts3 (fuel := 8) (brkWit_plain os args) (by kernel_rfl) (by kernel_rfl)

set_option maxRecDepth 100000 in
theorem brk_lifted (os : Os) (started : os.Started) (H : Type) (enc : TypeId × Value → H) :
    ReturnsInHanded {} Tryz.checked os 3 .any (fun w args => (Rows.changesBreakpointsSpec.pre enc Tryz.prog Tryz.f3 [] false w args ∧ laidMetH Tryz.prog Rows.changesBreakpointsRow.laid w) ∧ sizedMet enc Tryz.prog Tryz.f3 (OpenSpec.ofChange Rows.changesBreakpointsSpec) false w args)
      (Rows.changesBreakpointsSpec.post enc Tryz.prog Tryz.f3 false true false false) := by
  refine returnsInHanded_of_change_and (C := Tryz.checked) (X := fun w _ => laidMetH Tryz.prog Rows.changesBreakpointsRow.laid w) (fun _ _ _ hh h => h.of_heap hh) ownBrk started (by kernel_rfl) Tryz.func3
    (ChangeSpec.witness_shaped (enc := enc) (C := Tryz.checked) (os := os) (X := fun w _ => laidMetH Tryz.prog Rows.changesBreakpointsRow.laid w) false (brkWit os) #[.slice none 0 0] 8 (by unfold brkWit; rw [World.layVars_os]; rfl)
      (World.shaped_of_ZipB (by kernel_rfl) (by kernel_rfl)) (by kernel_rfl) (by kernel_rfl) (by kernel_rfl) (brkWit_met os _)) ?_
  intro W base args ds gs before hval0 hW _ hz hL _
  have hval : ∀ (j : Nat) t v, Tryz.f3.params[j]? = some t → args[j]? = some v → Value.okWide Tryz.prog W .any base t v := hval0
  have hz : (DataW.weightsEach Tryz.prog (Tryz.f3.params.toList ++ Rows.changesBreakpointsSpec.plain.varTypes Tryz.prog) (ds ++ gs)).all (· ≤ reachBytes) = true := hz
  have hW' := hW
  obtain ⟨p, q, hA0, hV, rfl, _, _⟩ := hW
  have hA : DataW.TrodAll enc Tryz.prog W 0 (fun _ => true) true Tryz.f3.params.toList args.toList ds p := hA0
  rw [Tryz.params3] at hA hval hz
  obtain ⟨v0, d0, rfl, rfl, h0⟩ := trodAll_one hA
  obtain ⟨rfl, rfl⟩ := trodVars_none hV
  have h0v := Go.WideShapes.okWide_slice Tryz.underlying22 (hval 0 22 v0 rfl rfl)
  obtain ⟨fuel, h0⟩ := h0
  have hw0 : Wt Tryz.prog 22 d0 := fun m hm => by
    have := List.all_eq_true.1 hz m (weightsEach_mem hm 0 rfl rfl)
    simpa using this
  obtain ⟨l, hl47, hfit2, hvl⟩ := slice_vl47 encGaz fitG Tryz.underlying22 (by kernel_rfl) (by kernel_rfl) (fun x => (show (encGaz x).cells.length = 4 from rfl).trans c_gaz.symm) (fun _ => rfl) encGaz_top (fun _ _ _ _ _ h hw => gaz_vl h hw) h0 hw0
  have hfit : fitGs l := ⟨Nat.lt_trans hl47 (by decide), hfit2⟩
  obtain ⟨v, hv1, hv2⟩ := hvl.one
  have hv3 : VRel (fun _ => none) (memOf W) (.ls (l.map encGaz)) v0 := by
    obtain ⟨a, len, cap, rfl⟩ := h0v
    have : v = .slice a len cap := by simpa [Value.cells] using hv1.symm
    exact this ▸ hv2
  have hv : VRels (fun _ => none) (memOf W) [.ls (l.map encGaz)] #[v0] := ⟨rfl, fun j y hj => by
    match j, hj with
    | 0, hj => simp at hj; subst hj; exact hv3
    | j + 1, hj => simp at hj⟩
  refine (law_run Tryz.func3 (by kernel_rfl) rfl (gok hL (.head _) (.tail _ (.head _)) (.tail _ (.tail _ (.head _))) (.tail _ (.tail _ (.tail _ (.head _))))) hv ((brk_law l hfit hl47 awake31 AHeap.none).mono fun _ _ e => e.1)).mono fun e W' ⟨he, hb⟩ => ?_
  exact ⟨_, he, law_post (tb := 4) (by kernel_rfl) (by kernel_rfl) rfl rfl (by kernel_rfl) (by kernel_rfl) hW' hb⟩

end Go.Proofs.YtbkijjplgkojcaaGreatDoor
