/- A law's arguments: whatever keys are handed in, they are Lean data. -/
import Derived.Test.YtjnecjhkmhhnnaaGreatDoorEva
import Derived.Test.YtjnecjhkmhhnnaaGreatDoorMach8
import Derived.Test.YtjnecjhkmhhnnaaGreatDoorMach8
namespace Go.Proofs.YtjnecjhkmhhnnaaGreatDoor
open Go Go.Ev
section
variable {H : Type} {enc : TypeId × Value → H} {w : World} {base : Nat} {spare : Nat → Bool} {held : Bool} {cs : List Value} {d : DataW H} {p : List MemPlace}
theorem ck_key : Tryz.prog.cellsOf 30 = 6 := by kernel_rfl
theorem kid_vl {fuel : Nat} (h : DataW.trod enc Tryz.prog w base spare held fuel 26 cs = some (d, p)) (hw : Wt Tryz.prog 26 d) : ∃ a b c, VL (memOf w) [.int .i64 a, .int .i64 b, .int .i64 c] cs := by
  obtain ⟨n, rfl, ⟨⟨d0, p0, t0, w0⟩, ⟨d1, p1, t1, w1⟩, ⟨d2, p2, t2, w2⟩, _⟩, hx⟩ := struct_vl Tryz.underlying26 (by kernel_rfl) h hw
  obtain ⟨a, ha⟩ := int_vl Tryz.underlying3 t0
  obtain ⟨b, hb⟩ := int_vl Tryz.underlying3 t1
  obtain ⟨c, hc⟩ := int_vl Tryz.underlying3 t2
  exact ⟨a, b, c, hx [[_], [_], [_]] ⟨ha, hb, hc, trivial⟩⟩
theorem kstep_vl {fuel : Nat} (h : DataW.trod enc Tryz.prog w base spare held fuel 28 cs = some (d, p)) (hw : Wt Tryz.prog 28 d) : ∃ a s, VL (memOf w) [.int .i64 a, .str s] cs := by
  obtain ⟨n, rfl, ⟨⟨d0, p0, t0, w0⟩, ⟨d1, p1, t1, w1⟩, _⟩, hx⟩ := struct_vl Tryz.underlying28 (by kernel_rfl) h hw
  obtain ⟨a, ha⟩ := int_vl Tryz.underlying3 t0
  obtain ⟨s, hs⟩ := str_vl Tryz.underlying9 t1
  exact ⟨a, s, hx [[_], [_]] ⟨ha, hs, trivial⟩⟩
theorem key_vl {fuel : Nat} (h : DataW.trod enc Tryz.prog w base spare held fuel 30 cs = some (d, p)) (hw : Wt Tryz.prog 30 d) : ∃ x : PKey, True ∧ VL (memOf w) (encKey x).cells cs := by
  obtain ⟨n, rfl, ⟨⟨d0, p0, t0, w0⟩, ⟨d1, p1, t1, w1⟩, ⟨d2, p2, t2, w2⟩, _⟩, hx⟩ := struct_vl Tryz.underlying30 (by kernel_rfl) h hw
  obtain ⟨k, hk⟩ := int_vl Tryz.underlying3 t0
  obtain ⟨a, b, c, hi⟩ := kid_vl t1 w1
  obtain ⟨m, s, hs⟩ := kstep_vl t2 w2
  exact ⟨⟨k, a, b, c, m, s⟩, trivial, hx [[_], [_, _, _], [_, _]] ⟨hk, hi, hs, trivial⟩⟩
theorem keys_vl {fuel : Nat} (h : DataW.trod enc Tryz.prog w base spare held fuel 22 cs = some (d, p)) (hw : Wt Tryz.prog 22 d) : ∃ l : List PKey, l.length < 2 ^ 60 ∧ (∀ x, x ∈ l → True) ∧ VL (memOf w) [.ls (l.map encKey)] cs :=
  slice_vl encKey (fun _ => True) Tryz.underlying22 (by kernel_rfl) (by kernel_rfl) (fun x => (show (encKey x).cells.length = 6 from rfl).trans ck_key.symm) (fun _ => rfl) encKey_top (fun _ _ _ _ _ h hw => key_vl h hw) h hw
end
end Go.Proofs.YtjnecjhkmhhnnaaGreatDoor
