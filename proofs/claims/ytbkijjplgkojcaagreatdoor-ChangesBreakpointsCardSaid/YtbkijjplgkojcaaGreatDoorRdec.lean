/- A law's arguments: whatever gazettes are handed in, they are Lean data. -/
import Derived.Test.YtbkijjplgkojcaaGreatDoorEva
import Derived.Test.YtbkijjplgkojcaaGreatDoorMach6
namespace Go.Proofs.YtbkijjplgkojcaaGreatDoor
open Go Go.Ev
section
variable {H : Type} {enc : TypeId × Value → H} {w : World} {base : Nat} {spare : Nat → Bool} {held : Bool} {cs : List Value} {d : DataW H} {p : List MemPlace}
theorem c_word : Tryz.prog.cellsOf 84 = 4 := by kernel_rfl
theorem c_step : Tryz.prog.cellsOf 106 = 2 := by kernel_rfl
theorem c_unit : Tryz.prog.cellsOf 42 = 8 := by kernel_rfl
theorem c_item : Tryz.prog.cellsOf 48 = 25 := by kernel_rfl
theorem c_act : Tryz.prog.cellsOf 59 = 7 := by kernel_rfl
theorem c_gaz : Tryz.prog.cellsOf 62 = 4 := by kernel_rfl
theorem c_str : Tryz.prog.cellsOf 9 = 1 := by kernel_rfl
theorem id_vl {fuel : Nat} (h : DataW.trod enc Tryz.prog w base spare held fuel 38 cs = some (d, p)) (hw : Wt Tryz.prog 38 d) : ∃ a b c, VL (memOf w) [.int .i64 a, .int .i64 b, .int .i64 c] cs := by
  obtain ⟨n, rfl, ⟨⟨d0, p0, t0, w0⟩, ⟨d1, p1, t1, w1⟩, ⟨d2, p2, t2, w2⟩, _⟩, hx⟩ := struct_vl Tryz.underlying38 (by kernel_rfl) h hw
  obtain ⟨a, ha⟩ := int_vl Tryz.underlying3 t0
  obtain ⟨b, hb⟩ := int_vl Tryz.underlying3 t1
  obtain ⟨c, hc⟩ := int_vl Tryz.underlying3 t2
  exact ⟨a, b, c, hx [[_], [_], [_]] ⟨ha, hb, hc, trivial⟩⟩
theorem mark_vl {fuel : Nat} (h : DataW.trod enc Tryz.prog w base spare held fuel 82 cs = some (d, p)) (hw : Wt Tryz.prog 82 d) : ∃ a b c, VL (memOf w) [.int .i64 a, .int .i64 b, .int .i64 c] cs := by
  obtain ⟨n, rfl, ⟨⟨d0, p0, t0, w0⟩, ⟨d1, p1, t1, w1⟩, ⟨d2, p2, t2, w2⟩, _⟩, hx⟩ := struct_vl Tryz.underlying82 (by kernel_rfl) h hw
  obtain ⟨a, ha⟩ := int_vl Tryz.underlying3 t0
  obtain ⟨b, hb⟩ := int_vl Tryz.underlying3 t1
  obtain ⟨c, hc⟩ := int_vl Tryz.underlying3 t2
  exact ⟨a, b, c, hx [[_], [_], [_]] ⟨ha, hb, hc, trivial⟩⟩
theorem word_vl {fuel : Nat} (h : DataW.trod enc Tryz.prog w base spare held fuel 84 cs = some (d, p)) (hw : Wt Tryz.prog 84 d) : ∃ x : PWord, True ∧ VL (memOf w) (encWord x).cells cs := by
  obtain ⟨n, rfl, ⟨⟨d0, p0, t0, w0⟩, ⟨d1, p1, t1, w1⟩, _⟩, hx⟩ := struct_vl Tryz.underlying84 (by kernel_rfl) h hw
  obtain ⟨s, hs⟩ := str_vl Tryz.underlying9 t0
  obtain ⟨a, b, c, hm⟩ := mark_vl t1 w1
  exact ⟨⟨s, a, b, c⟩, trivial, hx [[_], [_, _, _]] ⟨hs, hm, trivial⟩⟩
theorem step_vl {fuel : Nat} (h : DataW.trod enc Tryz.prog w base spare held fuel 106 cs = some (d, p)) (hw : Wt Tryz.prog 106 d) : ∃ x : PStep, True ∧ VL (memOf w) (encStep x).cells cs := by
  obtain ⟨n, rfl, ⟨⟨d0, p0, t0, w0⟩, ⟨d1, p1, t1, w1⟩, _⟩, hx⟩ := struct_vl Tryz.underlying106 (by kernel_rfl) h hw
  obtain ⟨a, ha⟩ := int_vl Tryz.underlying3 t0
  obtain ⟨s, hs⟩ := str_vl Tryz.underlying9 t1
  exact ⟨⟨a, s⟩, trivial, hx [[_], [_]] ⟨ha, hs, trivial⟩⟩
theorem start_vl {fuel : Nat} (h : DataW.trod enc Tryz.prog w base spare held fuel 45 cs = some (d, p)) (hw : Wt Tryz.prog 45 d) : ∃ x : PStart, VL (memOf w) [.int .i64 x.kind, .int .i64 x.day, .str x.event] cs := by
  obtain ⟨n, rfl, ⟨⟨d0, p0, t0, w0⟩, ⟨d1, p1, t1, w1⟩, ⟨d2, p2, t2, w2⟩, _⟩, hx⟩ := struct_vl Tryz.underlying45 (by kernel_rfl) h hw
  obtain ⟨a, ha⟩ := int_vl Tryz.underlying3 t0
  obtain ⟨b, hb⟩ := int_vl Tryz.underlying3 t1
  obtain ⟨s, hs⟩ := str_vl Tryz.underlying9 t2
  exact ⟨⟨a, b, s⟩, hx [[_], [_], [_]] ⟨ha, hb, hs, trivial⟩⟩
theorem strE_vl {fuel : Nat} (h : DataW.trod enc Tryz.prog w base spare held fuel 9 cs = some (d, p)) (_ : Wt Tryz.prog 9 d) : ∃ x : Str, True ∧ VL (memOf w) (Go.Ev.encStr x).cells cs := by
  obtain ⟨s, hs⟩ := str_vl Tryz.underlying9 h
  exact ⟨s, trivial, hs⟩
theorem words_vl {fuel : Nat} (h : DataW.trod enc Tryz.prog w base spare held fuel 39 cs = some (d, p)) (hw : Wt Tryz.prog 39 d) : ∃ l : List PWord, l.length < 2 ^ 60 ∧ (∀ x, x ∈ l → True) ∧ VL (memOf w) [.ls (l.map encWord)] cs :=
  slice_vl encWord (fun _ => True) Tryz.underlying39 (by kernel_rfl) (by kernel_rfl) (fun x => (show (encWord x).cells.length = 4 from rfl).trans c_word.symm) (fun _ => rfl) encWord_top (fun _ _ _ _ _ h hw => word_vl h hw) h hw
theorem steps_vl {fuel : Nat} (h : DataW.trod enc Tryz.prog w base spare held fuel 36 cs = some (d, p)) (hw : Wt Tryz.prog 36 d) : ∃ l : List PStep, l.length < 2 ^ 60 ∧ (∀ x, x ∈ l → True) ∧ VL (memOf w) [.ls (l.map encStep)] cs :=
  slice_vl encStep (fun _ => True) Tryz.underlying36 (by kernel_rfl) (by kernel_rfl) (fun x => (show (encStep x).cells.length = 2 from rfl).trans c_step.symm) (fun _ => rfl) encStep_top (fun _ _ _ _ _ h hw => step_vl h hw) h hw
theorem strs_vl {fuel : Nat} (h : DataW.trod enc Tryz.prog w base spare held fuel 43 cs = some (d, p)) (hw : Wt Tryz.prog 43 d) : ∃ l : List Str, l.length < 2 ^ 60 ∧ (∀ x, x ∈ l → True) ∧ VL (memOf w) [.ls (l.map Go.Ev.encStr)] cs :=
  slice_vl Go.Ev.encStr (fun _ => True) Tryz.underlying43 (by kernel_rfl) (by kernel_rfl) (fun x => (show (Go.Ev.encStr x).cells.length = 1 from rfl).trans c_str.symm) (fun _ => rfl) encStr_top (fun _ _ _ _ _ h hw => strE_vl h hw) h hw
theorem unit_vl (fuel : Nat) : ∀ {cs : List Value} {d : DataW H} {p : List MemPlace}, DataW.trod enc Tryz.prog w base spare held fuel 42 cs = some (d, p) → Wt Tryz.prog 42 d → ∃ u : TUnit, fitU u ∧ VL (memOf w) (cU u) cs := by
  induction fuel using Nat.strongRecOn with
  | _ fuel ih =>
    intro cs d p h hw
    obtain ⟨n, rfl, ⟨⟨d0, p0, t0, w0⟩, ⟨d1, p1, t1, w1⟩, ⟨d2, p2, t2, w2⟩, ⟨d3, p3, t3, w3⟩, ⟨d4, p4, t4, w4⟩, ⟨d5, p5, t5, w5⟩, _⟩, hx⟩ := struct_vl Tryz.underlying42 (by kernel_rfl) h hw
    obtain ⟨a, b, c, h0⟩ := id_vl t0 w0
    obtain ⟨k, h1⟩ := int_vl Tryz.underlying3 t1
    obtain ⟨l, h2⟩ := str_vl Tryz.underlying9 t2
    obtain ⟨hd, l3, _, h3⟩ := words_vl t3 w3
    obtain ⟨ws, l4, _, h4⟩ := words_vl t4 w4
    obtain ⟨ks, l5, f5, h5⟩ := slice_vl encU fitU Tryz.underlying40 (by kernel_rfl) (by kernel_rfl) (fun x => by rw [c_unit, encU_eq]; rfl) (fun x => by rw [encU_eq]; rfl) encU_top
      (fun m hm cs d p h hw => by
        obtain ⟨u, f, v⟩ := ih m (by omega) h hw
        exact ⟨u, f, by rw [encU_eq]; exact v⟩) t5 w5
    exact ⟨⟨a, b, c, k, l, hd, ws, ks⟩, fitU_iff.2 ⟨l3, l4, l5, f5⟩, hx [[_, _, _], [_], [_], [_], [_], [_]] ⟨h0, h1, h2, h3, h4, h5, trivial⟩⟩
theorem item_vl (fuel : Nat) : ∀ {cs : List Value} {d : DataW H} {p : List MemPlace}, DataW.trod enc Tryz.prog w base spare held fuel 48 cs = some (d, p) → Wt Tryz.prog 48 d → ∃ x : PItem, fitI x ∧ VL (memOf w) (cI x) cs := by
  induction fuel using Nat.strongRecOn with
  | _ fuel ih =>
    intro cs d p h hw
    obtain ⟨n, rfl, ⟨⟨d0, p0, t0, w0⟩, ⟨d1, p1, t1, w1⟩, ⟨d2, p2, t2, w2⟩, ⟨d3, p3, t3, w3⟩, ⟨d4, p4, t4, w4⟩, ⟨d5, p5, t5, w5⟩, ⟨d6, p6, t6, w6⟩, ⟨d7, p7, t7, w7⟩, ⟨d8, p8, t8, w8⟩, ⟨d9, p9, t9, w9⟩, ⟨d10, p10, t10, w10⟩, ⟨d11, p11, t11, w11⟩, ⟨d12, p12, t12, w12⟩, ⟨d13, p13, t13, w13⟩, ⟨d14, p14, t14, w14⟩, ⟨d15, p15, t15, w15⟩, _⟩, hx⟩ := struct_vl Tryz.underlying48 (by kernel_rfl) h hw
    obtain ⟨k, h0⟩ := int_vl Tryz.underlying3 t0
    obtain ⟨at_, l1, _, h1⟩ := steps_vl t1 w1
    obtain ⟨to, l2, _, h2⟩ := steps_vl t2 w2
    obtain ⟨wh, h3⟩ := int_vl Tryz.underlying3 t3
    obtain ⟨nt, h4⟩ := int_vl Tryz.underlying3 t4
    obtain ⟨u, f5, h5⟩ := unit_vl _ t5 w5
    obtain ⟨ol, l6, _, h6⟩ := strs_vl t6 w6
    obtain ⟨ne, l7, _, h7⟩ := strs_vl t7 w7
    obtain ⟨lb, h8⟩ := str_vl Tryz.underlying9 t8
    obtain ⟨fo, h9⟩ := str_vl Tryz.underlying9 t9
    obtain ⟨st, h10⟩ := start_vl t10 w10
    obtain ⟨ac, h11⟩ := int_vl Tryz.underlying3 t11
    obtain ⟨it, h12⟩ := int_vl Tryz.underlying3 t12
    obtain ⟨dy, h13⟩ := int_vl Tryz.underlying3 t13
    obtain ⟨ev, h14⟩ := str_vl Tryz.underlying9 t14
    obtain ⟨bs, l15, f15, h15⟩ := slice_vl Go.Ev.encI fitI Tryz.underlying46 (by kernel_rfl) (by kernel_rfl) (fun x => by rw [c_item, encI_eq]; rfl) (fun x => by rw [encI_eq]; rfl) encI_top
      (fun m hm cs d p h hw => by
        obtain ⟨u, f, v⟩ := ih m (by omega) h hw
        exact ⟨u, f, by rw [encI_eq]; exact v⟩) t15 w15
    exact ⟨⟨k, at_, to, wh, nt, u, ol, ne, lb, fo, st, ac, it, dy, ev, bs⟩, fitI_iff.2 ⟨l1, l2, l6, l7, l15, f5, f15⟩,
      hx [[_], [_], [_], [_], [_], cU u, [_], [_], [_], [_], [_, _, _], [_], [_], [_], [_], [_]] ⟨h0, h1, h2, h3, h4, h5, h6, h7, h8, h9, h10, h11, h12, h13, h14, h15, trivial⟩⟩
theorem items_vl {fuel : Nat} (h : DataW.trod enc Tryz.prog w base spare held fuel 46 cs = some (d, p)) (hw : Wt Tryz.prog 46 d) : ∃ l : List PItem, l.length < 2 ^ 60 ∧ (∀ x, x ∈ l → fitI x) ∧ VL (memOf w) [.ls (l.map Go.Ev.encI)] cs :=
  slice_vl Go.Ev.encI fitI Tryz.underlying46 (by kernel_rfl) (by kernel_rfl) (fun x => by rw [c_item, encI_eq]; rfl) (fun x => by rw [encI_eq]; rfl) encI_top
    (fun m _ cs d p h hw => by
      obtain ⟨u, f, v⟩ := item_vl m h hw
      exact ⟨u, f, by rw [encI_eq]; exact v⟩) h hw
theorem act_vl {fuel : Nat} (h : DataW.trod enc Tryz.prog w base spare held fuel 59 cs = some (d, p)) (hw : Wt Tryz.prog 59 d) : ∃ x : PAct, fitA x ∧ VL (memOf w) (encAct x).cells cs := by
  obtain ⟨n, rfl, ⟨⟨d0, p0, t0, w0⟩, ⟨d1, p1, t1, w1⟩, ⟨d2, p2, t2, w2⟩, ⟨d3, p3, t3, w3⟩, ⟨d4, p4, t4, w4⟩, _⟩, hx⟩ := struct_vl Tryz.underlying59 (by kernel_rfl) h hw
  obtain ⟨a, h0⟩ := int_vl Tryz.underlying3 t0
  obtain ⟨ti, h1⟩ := str_vl Tryz.underlying9 t1
  obtain ⟨dy, h2⟩ := int_vl Tryz.underlying3 t2
  obtain ⟨st, h3⟩ := start_vl t3 w3
  obtain ⟨l, l4, f4, h4⟩ := items_vl t4 w4
  exact ⟨⟨a, ti, dy, st, l⟩, ⟨l4, f4⟩, hx [[_], [_], [_], [_, _, _], [_]] ⟨h0, h1, h2, h3, h4, trivial⟩⟩
theorem acts_vl {fuel : Nat} (h : DataW.trod enc Tryz.prog w base spare held fuel 60 cs = some (d, p)) (hw : Wt Tryz.prog 60 d) : ∃ l : List PAct, l.length < 2 ^ 60 ∧ (∀ x, x ∈ l → fitA x) ∧ VL (memOf w) [.ls (l.map encAct)] cs :=
  slice_vl encAct fitA Tryz.underlying60 (by kernel_rfl) (by kernel_rfl) (fun x => (show (encAct x).cells.length = 7 from rfl).trans c_act.symm) (fun _ => rfl) encAct_top (fun _ _ _ _ _ h hw => act_vl h hw) h hw
theorem gaz_vl {fuel : Nat} (h : DataW.trod enc Tryz.prog w base spare held fuel 62 cs = some (d, p)) (hw : Wt Tryz.prog 62 d) : ∃ x : PGaz, fitG x ∧ VL (memOf w) (encGaz x).cells cs := by
  obtain ⟨n, rfl, ⟨⟨d0, p0, t0, w0⟩, ⟨d1, p1, t1, w1⟩, ⟨d2, p2, t2, w2⟩, ⟨d3, p3, t3, w3⟩, _⟩, hx⟩ := struct_vl Tryz.underlying62 (by kernel_rfl) h hw
  obtain ⟨a, h0⟩ := int_vl Tryz.underlying3 t0
  obtain ⟨dy, h1⟩ := int_vl Tryz.underlying3 t1
  obtain ⟨pr, h2⟩ := str_vl Tryz.underlying9 t2
  obtain ⟨l, l3, f3, h3⟩ := acts_vl t3 w3
  exact ⟨⟨a, dy, pr, l⟩, ⟨l3, f3⟩, hx [[_], [_], [_], [_]] ⟨h0, h1, h2, h3, trivial⟩⟩
/-- Gazettes handed in. -/
theorem gazettes_vl {fuel : Nat} (h : DataW.trod enc Tryz.prog w base spare held fuel 22 cs = some (d, p)) (hw : Wt Tryz.prog 22 d) : ∃ gs : List PGaz, fitGs gs ∧ VL (memOf w) [.ls (gs.map encGaz)] cs := by
  obtain ⟨l, h1, h2, h3⟩ := slice_vl encGaz fitG Tryz.underlying22 (by kernel_rfl) (by kernel_rfl) (fun x => (show (encGaz x).cells.length = 4 from rfl).trans c_gaz.symm) (fun _ => rfl) encGaz_top (fun _ _ _ _ _ h hw => gaz_vl h hw) h hw
  exact ⟨l, ⟨h1, h2⟩, h3⟩
end
end Go.Proofs.YtbkijjplgkojcaaGreatDoor
