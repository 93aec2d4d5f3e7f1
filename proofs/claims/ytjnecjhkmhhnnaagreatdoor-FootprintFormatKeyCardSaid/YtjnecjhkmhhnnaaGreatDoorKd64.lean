/- A law's argument: whatever key is handed in, it is Lean data, its numbers within int64, its text shorter than memory. -/
import Derived.Test.YtjnecjhkmhhnnaaGreatDoorKdec
import Derived.Test.YtjnecjhkmhhnnaaGreatDoorH45
namespace Go.Proofs.YtjnecjhkmhhnnaaGreatDoor
open Go Go.Ev
section
variable {H : Type} {enc : TypeId × Value → H} {w : World} {base : Nat} {spare : Nat → Bool} {held : Bool} {cs : List Value} {d : DataW H} {p : List MemPlace}
theorem int_vl64 {t : TypeId} {fuel : Nat} (hu : Tryz.prog.underlying t = some (.int .i64)) (h : DataW.trod enc Tryz.prog w base spare held fuel t cs = some (d, p)) : ∃ x, i64 x ∧ VL (memOf w) [.int .i64 x] cs := by
  obtain ⟨x, rfl, _, hw⟩ := DataW.trod_int hu h
  refine ⟨x, ?_, .cons (.int _ _) .nil⟩
  simp only [Lit.wf, Bool.and_eq_true, decide_eq_true_eq] at hw
  exact ⟨hw.1, hw.2⟩
theorem str_vlW {t : TypeId} {fuel : Nat} (hu : Tryz.prog.underlying t = some .string) (h : DataW.trod enc Tryz.prog w base spare held fuel t cs = some (d, p)) (hw : Wt Tryz.prog t d) : ∃ s : Str, s.length < 2 ^ 60 ∧ VL (memOf w) [.str s] cs := by
  obtain ⟨⟨⟨s⟩⟩, rfl, e, _⟩ := DataW.trod_string hu h
  obtain ⟨rfl, _⟩ := Prod.mk.inj e
  have := hw s.length (by simp [DataW.weights])
  exact ⟨s, Nat.lt_of_le_of_lt this (by decide), .cons (.str _) .nil⟩
theorem kid_vl64 {fuel : Nat} (h : DataW.trod enc Tryz.prog w base spare held fuel 26 cs = some (d, p)) (hw : Wt Tryz.prog 26 d) : ∃ a b c, (i64 a ∧ i64 b ∧ i64 c) ∧ VL (memOf w) [.int .i64 a, .int .i64 b, .int .i64 c] cs := by
  obtain ⟨n, rfl, ⟨⟨d0, p0, t0, w0⟩, ⟨d1, p1, t1, w1⟩, ⟨d2, p2, t2, w2⟩, _⟩, hx⟩ := struct_vl Tryz.underlying26 (by kernel_rfl) h hw
  obtain ⟨a, ia, ha⟩ := int_vl64 Tryz.underlying3 t0
  obtain ⟨b, ib, hb⟩ := int_vl64 Tryz.underlying3 t1
  obtain ⟨c, ic, hc⟩ := int_vl64 Tryz.underlying3 t2
  exact ⟨a, b, c, ⟨ia, ib, ic⟩, hx [[_], [_], [_]] ⟨ha, hb, hc, trivial⟩⟩
theorem kstep_vl64 {fuel : Nat} (h : DataW.trod enc Tryz.prog w base spare held fuel 28 cs = some (d, p)) (hw : Wt Tryz.prog 28 d) : ∃ a s, s.length < 2 ^ 60 ∧ VL (memOf w) [.int .i64 a, .str s] cs := by
  obtain ⟨n, rfl, ⟨⟨d0, p0, t0, w0⟩, ⟨d1, p1, t1, w1⟩, _⟩, hx⟩ := struct_vl Tryz.underlying28 (by kernel_rfl) h hw
  obtain ⟨a, ha⟩ := int_vl Tryz.underlying3 t0
  obtain ⟨s, hl, hs⟩ := str_vlW Tryz.underlying9 t1 w1
  exact ⟨a, s, hl, hx [[_], [_]] ⟨ha, hs, trivial⟩⟩
theorem key_vl64 {fuel : Nat} (h : DataW.trod enc Tryz.prog w base spare held fuel 30 cs = some (d, p)) (hw : Wt Tryz.prog 30 d) : ∃ x : PKey, (x.nl.length < 2 ^ 60 ∧ i64 x.act ∧ i64 x.item ∧ i64 x.n) ∧ VL (memOf w) (encKey x).cells cs := by
  obtain ⟨n, rfl, ⟨⟨d0, p0, t0, w0⟩, ⟨d1, p1, t1, w1⟩, ⟨d2, p2, t2, w2⟩, _⟩, hx⟩ := struct_vl Tryz.underlying30 (by kernel_rfl) h hw
  obtain ⟨k, hk⟩ := int_vl Tryz.underlying3 t0
  obtain ⟨a, b, c, ⟨ia, ib, ic⟩, hi⟩ := kid_vl64 t1 w1
  obtain ⟨m, s, hl, hs⟩ := kstep_vl64 t2 w2
  exact ⟨⟨k, a, b, c, m, s⟩, ⟨hl, ia, ib, ic⟩, hx [[_], [_, _, _], [_, _]] ⟨hk, hi, hs, trivial⟩⟩
end
end Go.Proofs.YtjnecjhkmhhnnaaGreatDoor
