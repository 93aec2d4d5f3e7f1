import Derived.Test.YtjnecjhkmhhnnaaGreatDoorH32
import Derived.Test.YtjnecjhkmhhnnaaGreatDoorMach8
namespace Go.Proofs.YtjnecjhkmhhnnaaGreatDoor
open Go Go.Ev
def PermK (m : List (PKey × Bool)) (y : Nat × List PKey) : Prop := y.2.Perm (m.map (·.1)) ∧ y.2.length = m.length
theorem appK_ok (m : List (PKey × Bool)) (hm : m.length ≤ 2 ^ 30) (hz : 0 < m.length) : HCall Tryz.prog G 245 [.nils, .func (.func 170) [] [.ptr 1 0 0 0]] (mkH [.map (entsG encKey AV.bool m 0) m.length, .row 1 false 0 [.map 0]])
    (fun v h => ∃ y : Nat × List PKey, PermK m y ∧ v = .slice 2 y.1 0 m.length none ∧ h = mkH [.map (entsG encKey AV.bool m 0) m.length, .row 1 false 0 [.map 0], .row 6 true y.1 (y.2.map encKey)]) :=
  (appendSeqK m hm).mono fun v h ⟨seen, ⟨h1, h2, h3⟩, h4⟩ => by
    have hp : (seen.map fun i => (gD m i).1).Perm (m.map (·.1)) := by
      refine ((all_perm h1 h2 h3).map fun i => (gD m i).1).trans (.of_eq ?_)
      have := congrArg (List.map Prod.fst) (range_map m)
      rw [List.map_map] at this
      exact this
    have hl : seen.length = m.length := by have := hp.length_eq; simpa using this
    rcases h4 with ⟨rfl, _, _⟩ | ⟨e, _, rfl, rfl⟩
    · simp at hl; omega
    · exact ⟨(e, seen.map fun i => (gD m i).1), ⟨hp, by simpa using hl⟩, by rw [hl], by simp only [List.map_map]; rfl⟩
theorem appK_nil : HCall Tryz.prog G 245 [.nils, .func (.func 170) [] [.ptr 1 0 0 0]] (mkH [.map [] 0, .row 1 false 0 [.map 0]])
    (fun v h => v = .nils ∧ h = mkH [.map [] 0, .row 1 false 0 [.map 0]]) :=
  (appendSeqK [] (by decide)).mono fun v h ⟨seen, ⟨h1, h2, h3⟩, h4⟩ => by
    rcases h4 with ⟨rfl, h4, h5⟩ | ⟨e, hne, _, _⟩
    · exact ⟨h4, h5⟩
    · cases seen with
      | nil => exact absurd rfl hne
      | cons i r => exact absurd (h2 i (by simp)) (by simp)
theorem colK_ok (m : List (PKey × Bool)) (hm : m.length ≤ 2 ^ 30) (hz : 0 < m.length) : HCall Tryz.prog G 168 [.func (.func 170) [] [.ptr 1 0 0 0]] (mkH [.map (entsG encKey AV.bool m 0) m.length, .row 1 false 0 [.map 0]])
    (fun v h => ∃ y : Nat × List PKey, PermK m y ∧ v = .slice 2 y.1 0 m.length none ∧ h = mkH [.map (entsG encKey AV.bool m 0) m.length, .row 1 false 0 [.map 0], .row 6 true y.1 (y.2.map encKey)]) := by
  have ha := appK_ok m hm hz
  exact HCall.walk 2 mixed gtop (ev 40) (fn := Tryz.f168) Tryz.func168 (by kernel_rfl) rfl ⟨by kernel_rfl, by kernel_rfl⟩ (.go 1 (.eff (Nat × List PKey) (fun y0 => AV.slice 2 y0.fst 0 m.length none) (fun y0 => mkH [AObj.map (entsG encKey AV.bool m 0) m.length, AObj.row 1 false 0 [AV.map 0], AObj.row 6 true y0.fst (List.map encKey y0.snd)]) (fun y0 => PermK m y0) (fun y0 => (.go 0 .fin)))) (et (ha) (fun (y0 : Nat × List PKey) (hy0 : PermK m y0) => (Exists.intro (p := fun (y : Nat × List PKey) => PermK m y ∧ AV.slice (2 : Nat) y0.fst (0 : Nat) m.length none = AV.slice (2 : Nat) y.fst (0 : Nat) m.length none ∧ mkH [AObj.map (entsG encKey AV.bool m (0 : Nat)) m.length, AObj.row (1 : Nat) false (0 : Nat) [AV.map (0 : Nat)], AObj.row (6 : Nat) true y0.fst (List.map encKey y0.snd)] = mkH [AObj.map (entsG encKey AV.bool m (0 : Nat)) m.length, AObj.row (1 : Nat) false (0 : Nat) [AV.map (0 : Nat)], AObj.row (6 : Nat) true y.fst (List.map encKey y.snd)]) ((y0.fst, y0.snd)) (et (by assumption : PermK m (y0.fst, y0.snd)) (et (Eq.refl (AV.slice 2 y0.fst 0 m.length none)) (Eq.refl (mkH [AObj.map (entsG encKey AV.bool m 0) m.length, AObj.row 1 false 0 [AV.map 0], AObj.row 6 true y0.fst (List.map encKey y0.snd)]))))))) (by kernel_rfl)
theorem colK_nil : HCall Tryz.prog G 168 [.func (.func 170) [] [.ptr 1 0 0 0]] (mkH [.map [] 0, .row 1 false 0 [.map 0]])
    (fun v h => v = .nils ∧ h = mkH [.map [] 0, .row 1 false 0 [.map 0]]) := by
  exact HCall.walk 2 mixed gtop (ev 40) (fn := Tryz.f168) Tryz.func168 (by kernel_rfl) rfl ⟨by kernel_rfl, by kernel_rfl⟩ (.go 1 (.efd (AV.nils) (mkH [AObj.map [] 0, AObj.row 1 false 0 [AV.map 0]]) (.go 0 .fin))) (et (appK_nil) (et (Eq.refl (AV.nils)) (Eq.refl (mkH [AObj.map [] 0, AObj.row 1 false 0 [AV.map 0]])))) (by kernel_rfl)
theorem srtK (m : List (PKey × Bool)) (hm : m.length ≤ 2 ^ 30) (hz : 0 < m.length) (y : Nat × List PKey) (hy : PermK m y) : HCall Tryz.prog G 169 [.slice 2 y.1 0 m.length none, .func (.func 110) [] []] (mkH [.map (entsG encKey AV.bool m 0) m.length, .row 1 false 0 [.map 0], .row 6 true y.1 (y.2.map encKey)])
    (fun v h => v = .tuple [] ∧ h = mkH [.map (entsG encKey AV.bool m 0) m.length, .row 1 false 0 [.map 0], .row 6 true y.1 ((sortK (m.map (·.1))).map encKey)]) := by
  have e : sortK y.2 = sortK (m.map (·.1)) := sorted_eq ((sortK_perm y.2).trans hy.1) (sortK_sorted y.2)
  have h := keySort_ok [.map (entsG encKey AV.bool m 0) m.length, .row 1 false 0 [.map 0]] y.2 y.1 m.length rfl hy.2.symm (by have := hy.2; omega) (by have := hy.2; omega) rfl rfl
  rw [e] at h
  exact h
theorem srtfK_ok (m : List (PKey × Bool)) (hm : m.length ≤ 2 ^ 30) (hz : 0 < m.length) : HCall Tryz.prog G 108 [.func (.func 170) [] [.ptr 1 0 0 0], .func (.func 110) [] []] (mkH [.map (entsG encKey AV.bool m 0) m.length, .row 1 false 0 [.map 0]])
    (fun v h => ∃ y : Nat × List PKey, PermK m y ∧ v = .slice 2 y.1 0 m.length none ∧ h = mkH [.map (entsG encKey AV.bool m 0) m.length, .row 1 false 0 [.map 0], .row 6 true y.1 ((sortK (m.map (·.1))).map encKey)]) := by
  have hc := colK_ok m hm hz
  have hs := srtK m hm hz
  exact HCall.walk 2 mixed gtop (ev 40) (fn := Tryz.f108) Tryz.func108 (by kernel_rfl) rfl ⟨by kernel_rfl, by kernel_rfl⟩ (.go 1 (.eff (Nat × List PKey) (fun y0 => AV.slice 2 y0.fst 0 m.length none) (fun y0 => mkH [AObj.map (entsG encKey AV.bool m 0) m.length, AObj.row 1 false 0 [AV.map 0], AObj.row 6 true y0.fst (List.map encKey y0.snd)]) (fun y0 => PermK m y0) (fun y0 => (.go 2 (.efd (AV.tuple []) (mkH [AObj.map (entsG encKey AV.bool m 0) m.length, AObj.row 1 false 0 [AV.map 0], AObj.row 6 true y0.fst (List.map encKey (sortK (List.map (fun x => x.fst) m)))]) (.go 1 .fin)))))) (et (hc) (fun (y0 : Nat × List PKey) (hy0 : PermK m y0) => (et (hs y0 hy0) (Exists.intro (p := fun (y : Nat × List PKey) => PermK m y ∧ AV.slice (2 : Nat) y0.fst (0 : Nat) m.length none = AV.slice (2 : Nat) y.fst (0 : Nat) m.length none ∧ mkH [AObj.map (entsG encKey AV.bool m (0 : Nat)) m.length, AObj.row (1 : Nat) false (0 : Nat) [AV.map (0 : Nat)], AObj.row (6 : Nat) true y0.fst (List.map encKey (sortK (List.map (fun x => x.fst) m)))] = mkH [AObj.map (entsG encKey AV.bool m (0 : Nat)) m.length, AObj.row (1 : Nat) false (0 : Nat) [AV.map (0 : Nat)], AObj.row (6 : Nat) true y.fst (List.map encKey (sortK (List.map (fun x => x.fst) m)))]) ((y0.fst, y0.snd)) (et (by assumption : PermK m (y0.fst, y0.snd)) (et (Eq.refl (AV.slice 2 y0.fst 0 m.length none)) (Eq.refl (mkH [AObj.map (entsG encKey AV.bool m 0) m.length, AObj.row 1 false 0 [AV.map 0], AObj.row 6 true y0.fst (List.map encKey (sortK (List.map (fun x => x.fst) m)))])))))))) (by kernel_rfl)
theorem srtfK_nil : HCall Tryz.prog G 108 [.func (.func 170) [] [.ptr 1 0 0 0], .func (.func 110) [] []] (mkH [.map [] 0, .row 1 false 0 [.map 0]])
    (fun v h => v = .nils ∧ h = mkH [.map [] 0, .row 1 false 0 [.map 0]]) := by
  exact HCall.walk 2 mixed gtop (ev 40) (fn := Tryz.f108) Tryz.func108 (by kernel_rfl) rfl ⟨by kernel_rfl, by kernel_rfl⟩ (.go 1 (.efd (AV.nils) (mkH [AObj.map [] 0, AObj.row 1 false 0 [AV.map 0]]) (.go 2 (.pure (AV.tuple []) (.go 1 .fin))))) (et (colK_nil) (et (keySort_nil) (et (Eq.refl (AV.nils)) (Eq.refl (mkH [AObj.map [] 0, AObj.row 1 false 0 [AV.map 0]]))))) (by kernel_rfl)
theorem keysK_ok (m : List (PKey × Bool)) : HCall Tryz.prog G 109 [.map 0] (mkH [.map (entsG encKey AV.bool m 0) m.length])
    (fun v h => v = .func (.func 170) [] [.ptr 1 0 0 0] ∧ h = mkH [.map (entsG encKey AV.bool m 0) m.length, .row 1 false 0 [.map 0]]) := by
  exact HCall.walk 2 mixed gtop (ev 40) (fn := Tryz.f109) Tryz.func109 (by kernel_rfl) rfl ⟨by kernel_rfl, by kernel_rfl⟩ (.go 3 .fin) (et (Eq.refl (AV.func (Fn.func 170) [] [AV.ptr 1 0 0 0])) (Eq.refl (mkH [AObj.map (entsG encKey AV.bool m 0) m.length, AObj.row 1 false 0 [AV.map 0]]))) (by kernel_rfl)
theorem keysK_nil : HCall Tryz.prog G 109 [.map 0] (mkH [.map [] 0])
    (fun v h => v = .func (.func 170) [] [.ptr 1 0 0 0] ∧ h = mkH [.map [] 0, .row 1 false 0 [.map 0]]) := keysK_ok []
theorem risK_nil : HCall Tryz.prog G 71 [.map 0] (mkH [.map [] 0]) (fun v h => v = .nils ∧ h = mkH [.map [] 0]) := by
  exact HCall.walk 2 mixed gtop (ev 40) (fn := Tryz.f71) Tryz.func71 (by kernel_rfl) rfl ⟨by kernel_rfl, by kernel_rfl⟩ (.go 1 (.efd (AV.func (Fn.func 170) [] [AV.ptr 1 0 0 0]) (mkH [AObj.map [] 0, AObj.row 1 false 0 [AV.map 0]]) (.efd (AV.nils) (mkH [AObj.map [] 0, AObj.row 1 false 0 [AV.map 0]]) (.go 0 (.frz 1 [2] .fin))))) (et (keysK_nil) (et (srtfK_nil) (et (et (Eq.refl true) True.intro) (et (Eq.refl (AV.nils)) (Eq.refl (mkH [AObj.map [] 0])))))) (by kernel_rfl)
theorem risK_ok (m : List (PKey × Bool)) (hm : m.length ≤ 2 ^ 30) (hz : 0 < m.length) : HCall Tryz.prog G 71 [.map 0] (mkH [.map (entsG encKey AV.bool m 0) m.length])
    (fun v h => v = .ls ((sortK (m.map (·.1))).map encKey) ∧ h = mkH [.map (entsG encKey AV.bool m 0) m.length]) := by
  have hk := keysK_ok m
  have hs := srtfK_ok m hm hz
  have ht := entTops_key m 0
  have hsl : (sortK (m.map (·.1))).length = m.length := by rw [(sortK_perm _).length_eq, List.length_map]
  have htk : (sortK (m.map (·.1))).take m.length = sortK (m.map (·.1)) := List.take_of_length_le (by omega)
  exact HCall.walk 2 mixed gtop (ev 40) (fn := Tryz.f71) Tryz.func71 (by kernel_rfl) rfl ⟨by kernel_rfl, by kernel_rfl⟩ (.go 1 (.efd (AV.func (Fn.func 170) [] [AV.ptr 1 0 0 0]) (mkH [AObj.map (entsG encKey AV.bool m 0) m.length, AObj.row 1 false 0 [AV.map 0]]) (.eff (Nat × List PKey) (fun y0 => AV.slice 2 y0.fst 0 m.length none) (fun y0 => mkH [AObj.map (entsG encKey AV.bool m 0) m.length, AObj.row 1 false 0 [AV.map 0], AObj.row 6 true y0.fst (List.map encKey (sortK (List.map (fun x => x.fst) m)))]) (fun y0 => PermK m y0) (fun y0 => (.go 0 (.fsl 1 [] 2 (List.map encKey (sortK (List.map (fun x => x.fst) m))) (.le 2 (AV.ls (List.map encKey (sortK (List.map (fun x => x.fst) m)))) .fin))))))) (et (hk) (et (hs) (fun (y0 : Nat × List PKey) (hy0 : PermK m y0) => (et (et (topMap (c := m.length) (n := 1) (by first | assumption | omega : entTops (entsG encKey AV.bool m 0) = 0)) True.intro) (et (et (Eq.refl (y0.fst)) (et (takeAll (f := encKey) (l := sortK (List.map (fun x => x.fst) m)) (n := m.length) (by first | assumption | omega : (sortK (List.map (fun x => x.fst) m)).length = m.length)) (tops_map Go.Ev.encKey_top (sortK (List.map (fun x => x.fst) m))))) (et (Le.ps (List.map encKey (sortK (List.map (fun x => x.fst) m))) false (tops_map Go.Ev.encKey_top (sortK (List.map (fun x => x.fst) m)))) (et (Eq.refl (AV.ls (List.map encKey (sortK (List.map (fun x => x.fst) m))))) (Eq.refl (mkH [AObj.map (entsG encKey AV.bool m 0) m.length]))))))))) (by kernel_rfl)
end Go.Proofs.YtjnecjhkmhhnnaaGreatDoor
