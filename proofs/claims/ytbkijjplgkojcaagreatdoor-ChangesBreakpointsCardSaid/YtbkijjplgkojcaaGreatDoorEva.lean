/- The seat's machine: what package-level variables hold; that the machine's answers are the model's. -/
import Derived.Test.YtbkijjplgkojcaaGreatDoorRows
import Derived.Test.YtbkijjplgkojcaaGreatDoorMach6
namespace Go.Proofs.YtbkijjplgkojcaaGreatDoor
open Go Go.Ev

noncomputable def gAccept : AV := .agg [.int .u8 128, .int .u8 191, .int .u8 160, .int .u8 191, .int .u8 128, .int .u8 159, .int .u8 144, .int .u8 191, .int .u8 128, .int .u8 143,
  .int .u8 0, .int .u8 0, .int .u8 0, .int .u8 0, .int .u8 0, .int .u8 0, .int .u8 0, .int .u8 0, .int .u8 0, .int .u8 0, .int .u8 0, .int .u8 0, .int .u8 0, .int .u8 0, .int .u8 0, .int .u8 0, .int .u8 0, .int .u8 0, .int .u8 0, .int .u8 0, .int .u8 0, .int .u8 0]
noncomputable def gNames : AV := .agg [.str [98, 111, 111, 107], .str [112, 97, 114, 116], .str [115, 101, 99, 116, 105, 111, 110], .str [112, 97, 114, 97, 103, 114, 97, 112, 104], .str [116, 97, 98, 108, 101], .str [114, 111, 119], .str [99, 101, 108, 108], .str [110, 111, 116, 101]]
noncomputable def gBelow : AV := .agg [.ps [.int .i64 1, .int .i64 2] false, .ps [.int .i64 2] false, .ps [.int .i64 3, .int .i64 4, .int .i64 7] false, .ps [.int .i64 3, .int .i64 4, .int .i64 7] false, .ps [.int .i64 5] false, .ps [.int .i64 6] false, .nils, .nils]
noncomputable def gOrder : AV := .agg [.func (.func 334) [] [], .func (.func 335) [] []]

noncomputable def gl : List (Nat × AV) := [(3, gAccept), (4, gNames), (1, gBelow), (0, gOrder)]
noncomputable abbrev G : Env := envL gl

theorem gtop : GTop G := gtop_of_list (by kernel_rfl)

theorem noNG : NoNG Tryz.prog := fun f fn h => by
  have key : (Tryz.prog.funcs.all fun fn => !(fn.name == "runtime.NumGoroutine")) = true := by kernel_rfl
  have := Array.all_eq_true_iff_forall_mem.1 key fn (Array.mem_of_getElem? h)
  simpa using this

theorem mixed : Tryz.prog.follows .mixedOrders = true := by kernel_rfl

/-- How outcomes are left. -/
noncomputable def owns : List Nat := [7, 162, 204, 206, 222, 226, 229]
noncomputable def keeps : List Nat := [143]
noncomputable def pol (f : FuncId) : Nat := match hasId f owns with | true => 1 | false => (match hasId f keeps with | true => 2 | false => 0)

noncomputable def C : Cfg := { P := Tryz.prog, G := G, pol := pol, rounds := 100000 }

theorem ev (k : Nat) : CallerOK Tryz.prog G (evFunc C k) := ev_ok (C := C) noNG mixed (fun _ _ _ _ _ h => by simp [C] at h) k

/-- Does a call answer true? -/
noncomputable def saysTrue : Option (AV × AHeap) → Bool
  | some (.bool true, _) => true
  | _ => false

/-- A closed call that answers true, wherever it is made. -/
theorem closed {f : FuncId} (k : Nat) (h : saysTrue (evFunc C k f [] AHeap.none) = true) : HPure Tryz.prog G f [] (.bool true) := by
  cases hx : evFunc C k f [] AHeap.none with
  | none => rw [hx] at h; cases h
  | some r =>
    obtain ⟨v, h1⟩ := r
    rw [hx] at h
    have e : v = .bool true := by
      unfold saysTrue at h
      split at h
      · rename_i q; cases q; rfl
      · cases h
    subst e
    exact HPure.of0 gtop rfl rfl ((HCall.of (ev k) hx).mono fun v1 _ e => e.1)

end Go.Proofs.YtbkijjplgkojcaaGreatDoor
