/- What a row's condition on package-level variables gives the machine; a world that meets it. -/
import Derived.Test.YtbkijjplgkojcaaGreatDoorEva
import Derived.Test.YtbkijjplgkojcaaGreatDoorMach6
import Derived.LaidSub
import Derived.Lay
import Derived.MakeChecks
namespace Go.Proofs.YtbkijjplgkojcaaGreatDoor
open Go Go.Ev

theorem two_of {α : Type} : ∀ {l : List α}, l.length = 2 → ∃ a b, l = [a, b]
  | [a, b], _ => ⟨a, b, rfl⟩
  | [], h => by simp at h
  | [_], h => by simp at h
  | _ :: _ :: _ :: _, h => by simp at h

theorem var_block {P : Program} {W : World} {n : String} {g : Nat} {cs : Array Value} (hg : P.globalNamed n = some g) (hv : W.var? P n = some cs) : ∃ t fr, W.heap[g]? = some (.cells cs t fr) := by
  unfold World.var? at hv
  rw [hg] at hv
  simp only [Option.bind_some] at hv
  split at hv
  · rename_i c t fr q; cases hv; exact ⟨t, fr, q⟩
  · cases hv

theorem order_rel {L : List (String × DataW Unit)} {W : World} (h : laidMetH Tryz.prog L W) (m : ("pandect/syntax.order", Rows.laid_pandect_syntax_order) ∈ L) :
    GRel (fun _ => none) (memOf W) 0 gOrder := by
  obtain ⟨g, t, cs, fuel, p, hg, ht, hv, hd⟩ := h.funcs m
  obtain rfl := Option.some.inj ((show Tryz.prog.globalNamed "pandect/syntax.order" = some 0 by kernel_rfl).symm.trans hg)
  obtain rfl := Option.some.inj ((show (Tryz.prog.globals[0]?).map (·.type) = some 189 by kernel_rfl).symm.trans ht)
  obtain ⟨xs, m, _, ex, hl, hx, hel⟩ := DataW.trod_struct Tryz.underlying189 hd
  have hl : cs.toList.length = 2 := hl.trans (by kernel_rfl)
  have ex : (DataW.agg [.held [112, 97, 110, 100, 101, 99, 116, 47, 115, 121, 110, 116, 97, 120, 46, 111, 114, 100, 101, 114, 36, 49], .held [112, 97, 110, 100, 101, 99, 116, 47, 115, 121, 110, 116, 97, 120, 46, 111, 114, 100, 101, 114, 36, 50]] : DataW (List UInt8)) = .agg (xs.map (·.1)) := (Prod.mk.inj ex).1
  have ex := DataW.agg.inj ex
  obtain ⟨v0, v1, hcs⟩ := two_of hl
  obtain rfl : cs = #[v0, v1] := Array.toList_inj.1 hcs
  have hlx : xs.length = 2 := by have := congrArg List.length ex; simpa using this.symm
  obtain ⟨⟨y0, q0⟩, ⟨y1, q1⟩, rfl⟩ := two_of hlx
  simp only [List.map_cons, List.map_nil, List.cons.injEq, and_true] at ex
  have h0 : DataW.trod (funcToken Tryz.prog) Tryz.prog W 0 (fun _ => true) true m 187 (([v0, v1].drop 0).take (Tryz.prog.cellsOf 187)) = some (y0, q0) := hel 0 _ rfl
  have h1 : DataW.trod (funcToken Tryz.prog) Tryz.prog W 0 (fun _ => true) true m 86 (([v0, v1].drop 1).take (Tryz.prog.cellsOf 86)) = some (y1, q1) := hel 1 _ rfl
  have c0 : Tryz.prog.cellsOf 187 = 1 := by kernel_rfl
  have c1 : Tryz.prog.cellsOf 86 = 1 := by kernel_rfl
  rw [c0] at h0
  rw [c1] at h1
  simp only [List.drop_zero, List.drop_succ_cons, List.take_succ_cons, List.take_zero] at h0 h1
  obtain ⟨rfl, rfl⟩ := ex
  obtain rfl := func_of_trod (f0 := 334) Tryz.underlying187 (by kernel_rfl) h0
  obtain rfl := func_of_trod (f0 := 335) Tryz.underlying86 (by kernel_rfl) h1
  obtain ⟨t2, fr, hc⟩ := var_block hg hv
  have fn : ∀ f : Nat, VRel (fun _ => none) (memOf W) (.func (.func f) [] []) (.func (.func f) #[] #[]) := fun f => .func rfl rfl (fun j y h => by simp at h) (fun j y h => by simp at h)
  refine glob_rel hc ⟨rfl, fun j y hj => ?_⟩ (fun y hy => ?_) (by decide)
  · match j, hj with
    | 0, hj => simp [gOrder, AV.cells] at hj; subst hj; exact fn _
    | 1, hj => simp [gOrder, AV.cells] at hj; subst hj; exact fn _
    | j + 2, hj => simp [gOrder, AV.cells] at hj
  · simp [gOrder, AV.cells] at hy
    rcases hy with rfl | rfl <;> rfl

/-- The environment stands, where a row's condition is met. -/
theorem gok {L : List (String × DataW Unit)} {W : World} (h : laidMetH Tryz.prog L W) (m1 : ("unicode/utf8.acceptRanges", Rows.laid_unicode_utf8_acceptRanges) ∈ L) (m2 : ("pandect/unit.names", Rows.laid_pandect_unit_names) ∈ L)
    (m3 : ("pandect/unit.below", Rows.laid_pandect_unit_below) ∈ L) (m4 : ("pandect/syntax.order", Rows.laid_pandect_syntax_order) ∈ L) : GOk G (fun _ => none) (memOf W) := by
  have hp := (laidMetH_iff.1 h).1
  refine gok_of_list fun p hp' => ?_
  simp only [gl, List.mem_cons, List.mem_nil_iff, or_false] at hp'
  rcases hp' with rfl | rfl | rfl | rfl
  · exact laid_rel 9 hp (List.mem_filter.2 ⟨m1, by kernel_rfl⟩) (by kernel_rfl) (t := 325) (by kernel_rfl) (xs := gAccept.cells) (by kernel_rfl) (ag := true) rfl rfl
  · exact laid_rel 9 hp (List.mem_filter.2 ⟨m2, by kernel_rfl⟩) (by kernel_rfl) (t := 332) (by kernel_rfl) (xs := gNames.cells) (by kernel_rfl) (ag := true) rfl rfl
  · exact laid_rel 9 hp (List.mem_filter.2 ⟨m3, by kernel_rfl⟩) (by kernel_rfl) (t := 277) (by kernel_rfl) (xs := gBelow.cells) (by kernel_rfl) (ag := true) rfl rfl
  · exact order_rel h m4

end Go.Proofs.YtbkijjplgkojcaaGreatDoor
