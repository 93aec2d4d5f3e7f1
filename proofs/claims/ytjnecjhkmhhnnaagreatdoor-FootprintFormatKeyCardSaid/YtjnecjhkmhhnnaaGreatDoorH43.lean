import Derived.Test.YtjnecjhkmhhnnaaGreatDoorH42
import Derived.Test.YtjnecjhkmhhnnaaGreatDoorMach8
namespace Go.Proofs.YtjnecjhkmhhnnaaGreatDoor
open Go Go.Ev
theorem tkL_ok (k a b n nk : Int) (nl : Str) (hk : k < 0) : HPure Tryz.prog G 11 [encKey ⟨k, a, b, n, nk, nl⟩] (.str []) := by
  have q3 : eqI k 3 = false := by rw [eqI_iff]; exact decide_eq_false (by omega)
  have q4 : ltI k 0 = true := ltI_t hk
  exact HPure.walk mixed gtop (ev 40) (by kernel_rfl) (by kernel_rfl) (fn := Tryz.f11) Tryz.func11 (by kernel_rfl) rfl ⟨by kernel_rfl, by kernel_rfl⟩ (.go 4 (.ff (.go 3 (.tt (.tt (.tt (.pk true (.go 1 .fin)))))))) (et q3 (et q4 (et q4 (et q4 (et q4 ((Le.refl _) : Le _ (AV.str []))))))) (by kernel_rfl)
theorem tkH_ok (k a b n nk : Int) (nl : Str) (hk : 3 < k) : HPure Tryz.prog G 11 [encKey ⟨k, a, b, n, nk, nl⟩] (.str []) := by
  have q3 : eqI k 3 = false := by rw [eqI_iff]; exact decide_eq_false (by omega)
  have q4 : ltI k 0 = false := ltI_f (by omega)
  have q5 : ltI 3 k = true := ltI_t hk
  exact HPure.walk mixed gtop (ev 40) (by kernel_rfl) (by kernel_rfl) (fn := Tryz.f11) Tryz.func11 (by kernel_rfl) rfl ⟨by kernel_rfl, by kernel_rfl⟩ (.go 4 (.ff (.go 3 (.ff (.go 0 (.ff (.go 0 (.ff (.go 0 (.pk false (.tt (.go 0 .fin)))))))))))) (et q3 (et q4 (et q4 (et q4 (et q4 (et q5 ((Le.refl _) : Le _ (AV.str [])))))))) (by kernel_rfl)
theorem fkX_ok (k a b n nk : Int) (nl : Str) (hk : k < 0 ∨ 3 < k) : HPure Tryz.prog G 10 [encKey ⟨k, a, b, n, nk, nl⟩] (.str []) := by
  have q0 : eqI k 0 = false := by rw [eqI_iff]; exact decide_eq_false (by omega)
  have q1 : eqI k 1 = false := by rw [eqI_iff]; exact decide_eq_false (by omega)
  have q2 : eqI k 2 = false := by rw [eqI_iff]; exact decide_eq_false (by omega)
  have q3 : eqI k 3 = false := by rw [eqI_iff]; exact decide_eq_false (by omega)
  have hlk : lookupE (some (.str [])) true (findEnt false 1 [(0, 1)] (.int .i64 k) [⟨.int .i64 0, .str [119, 111, 114, 100, 115, 32], 0⟩, ⟨.int .i64 1, .str [104, 101, 97, 100, 32], 1⟩, ⟨.int .i64 2, .str [107, 105, 100, 115, 32], 2⟩] 0) = some (.tuple [.str [], .bool false]) := by
    simp [findEnt, keyEq, eqS, kindB, findThen, q0, q1, q2, lookupE, withOk]
  exact HPure.walk mixed gtop (ev 40) (by kernel_rfl) (by kernel_rfl) (fn := Tryz.f10) Tryz.func10 (by kernel_rfl) rfl ⟨by kernel_rfl, by kernel_rfl⟩ (.go 4 (.ff (.go 8 (.look (AV.tuple [AV.str [], AV.bool false]) (.go 8 .fin))))) (et q3 (et (hlk ) ((Le.refl _) : Le _ (AV.str [])))) (by kernel_rfl)
end Go.Proofs.YtjnecjhkmhhnnaaGreatDoor
