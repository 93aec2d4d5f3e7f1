import Derived.Test.YtjnecjhkmhhnnaaGreatDoorH44
import Derived.Test.YtjnecjhkmhhnnaaGreatDoorMach8
namespace Go.Proofs.YtjnecjhkmhhnnaaGreatDoor
open Go Go.Ev
theorem fkyT (k a b n nk : Int) (nl T : Str) (h40 : nl.length < 2 ^ 60) (q : ltI 100 (Int.ofNat nl.length) = false) (hf : HPure Tryz.prog G 10 [encKey ⟨k, a, b, n, nk, nl⟩] (.str T)) (ht : HPure Tryz.prog G 11 [encKey ⟨k, a, b, n, nk, nl⟩] (.str T)) (haw : HPure Tryz.prog G 7 [] (.bool true)) : HPure Tryz.prog G 4 [encKey ⟨k, a, b, n, nk, nl⟩] (.bool true) := by
  exact HPure.walk mixed gtop (ev 40) (by kernel_rfl) (by kernel_rfl) (fn := Tryz.f4) Tryz.func4 (by kernel_rfl) rfl ⟨by kernel_rfl, by kernel_rfl⟩ (.go 1 (.pure (AV.bool true) (.go 6 (.ff (.go 0 (.pure (AV.str T) (.go 0 (.pure (AV.str T) (.go 1 .fin))))))))) (et (haw) (et q (et (hf) (et (ht) ((Le.bool (by first | rfl | simp [eqB_refl] | exact (eqB_refl T).symm : (true) = (eqB T T))) : Le _ (AV.bool (eqB T T))))))) (by kernel_rfl)
theorem fkyL (k a b n nk : Int) (nl : Str) (h40 : nl.length < 2 ^ 60) (q : ltI 100 (Int.ofNat nl.length) = true) (haw : HPure Tryz.prog G 7 [] (.bool true)) : HPure Tryz.prog G 4 [encKey ⟨k, a, b, n, nk, nl⟩] (.bool true) := by
  exact HPure.walk mixed gtop (ev 40) (by kernel_rfl) (by kernel_rfl) (fn := Tryz.f4) Tryz.func4 (by kernel_rfl) rfl ⟨by kernel_rfl, by kernel_rfl⟩ (.go 1 (.pure (AV.bool true) (.go 6 (.tt (.go 0 .fin))))) (et (haw) (et q ((Le.refl _) : Le _ (AV.bool true)))) (by kernel_rfl)
theorem fky_law (x : PKey) (hl : x.nl.length < 2 ^ 60) (ha : i64 x.act) (hb : i64 x.item) (hn : i64 x.n) (haw : HPure Tryz.prog G 7 [] (.bool true)) : HPure Tryz.prog G 4 [encKey x] (.bool true) := by
  obtain ⟨k, a, b, n, nk, nl⟩ := x
  cases q : ltI 100 (Int.ofNat nl.length) with
  | true => exact fkyL k a b n nk nl hl q haw
  | false =>
    obtain ⟨T, h1, h2⟩ := fky_eq k a b n nk nl (by have := ltI_false q; simp only [Int.ofNat_eq_natCast] at this; omega) ha hb hn
    exact fkyT k a b n nk nl T hl q h1 h2 haw
end Go.Proofs.YtjnecjhkmhhnnaaGreatDoor
