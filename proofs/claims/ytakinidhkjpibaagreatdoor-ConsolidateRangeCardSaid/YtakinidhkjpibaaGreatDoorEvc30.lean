/- A closed run, in three parts: the examples that the laws of chapter 30 check. -/
import Derived.Test.YtakinidhkjpibaaGreatDoorEva
import Derived.Test.YtakinidhkjpibaaGreatDoorHook
namespace Go.Proofs.YtakinidhkjpibaaGreatDoor
open Go Go.Ev
noncomputable abbrev acts30 : AV := .ps [.agg [.int .i64 1, .int .i64 7, .str [], .ps [.agg [.int .i64 1, .str [97], .int .i64 5, .int .i64 1, .int .i64 10, .str [], .ps [.agg [.int .i64 0, .nils, .nils, .int .i64 0, .int .i64 0, .int .i64 0, .int .i64 0, .int .i64 0, .int .i64 2, .str [49], .nils, .nils, .nils, .nils, .nils, .str [], .str [], .int .i64 0, .int .i64 0, .str [], .int .i64 0, .int .i64 0, .int .i64 0, .str [], .nils]] true], .agg [.int .i64 2, .str [98], .int .i64 6, .int .i64 1, .int .i64 20, .str [], .ps [.agg [.int .i64 1, .ps [.agg [.int .i64 2, .str [49]]] true, .nils, .int .i64 0, .int .i64 0, .int .i64 0, .int .i64 0, .int .i64 0, .int .i64 0, .str [], .nils, .nils, .nils, .nils, .nils, .str [], .str [], .int .i64 0, .int .i64 0, .str [], .int .i64 0, .int .i64 0, .int .i64 0, .str [], .nils]] true]] true]] true
noncomputable abbrev args30 : List AV := [.int .i64 20, .str [], .agg [.int .i64 2, .int .i64 0], acts30]
noncomputable abbrev book30 : AV := .agg [.int .i64 0, .int .i64 0, .int .i64 0, .int .i64 0, .str [], .nils, .nils, .ps [.agg [.int .i64 1, .int .i64 0, .int .i64 1, .int .i64 2, .str [49], .nils, .nils, .ps [] true]] false]
theorem effect30 : HPure Tryz.prog G 26 args30 (.bool true) := HPure.closed (C := C) (k := 60) gtop (ev 60) rfl (by kernel_rfl)
theorem before30 : HPure Tryz.prog G 27 args30 book30 := HPure.closed (C := C) (k := 60) gtop (ev 60) rfl (by kernel_rfl)
noncomputable def C30 : Cfg := { P := Tryz.prog, G := G, pol := pol, rounds := 100000, hook := hookL [(26, args30, .bool true), (27, args30, book30)] }
theorem ev30 (k : Nat) : CallerOK Tryz.prog G (evFunc C30 k) := ev_ok (C := C30) noNG mixed (hookL_ok rfl fun x hx => by
  rcases List.mem_cons.1 hx with rfl | hx
  · exact effect30
  · rw [List.mem_singleton.1 hx]; exact before30) k
theorem awake30 : HPure Tryz.prog G 11 [] (.bool true) := HPure.closed (C := C30) (k := 60) gtop (ev30 60) rfl (by kernel_rfl)
end Go.Proofs.YtakinidhkjpibaaGreatDoor
