/- A closed run: the examples that the laws of chapter 25 check; a set's keys in their order by their contract. -/
import Derived.Test.YtjnecjhkmhhnnaaGreatDoorH33
import Derived.Test.YtjnecjhkmhhnnaaGreatDoorMach8
namespace Go.Proofs.YtjnecjhkmhhnnaaGreatDoor
open Go Go.Ev
noncomputable def outK (m : List (PKey × Bool)) : AV := match m with
  | [] => .nils
  | _ :: _ => .ls ((sortK (m.map (·.1))).map encKey)
noncomputable def hookK (f : FuncId) (args : List AV) (h : AHeap) : Option (AV × AHeap) := match Nat.beq f 71, args with
  | true, [.map id] => match h.get id with
    | some (.map es c) => match decEnts es 0 with
      | some m => match Nat.beq c m.length && Nat.ble m.length 1000 with
        | true => some (outK m, h)
        | false => none
      | none => none
    | _ => none
  | _, _ => none
theorem risK_any (m : List (PKey × Bool)) (hm : m.length ≤ 1000) : HCall Tryz.prog G 71 [.map 0] (mkH [.map (entsG encKey AV.bool m 0) m.length]) (fun v h => v = outK m ∧ h = mkH [.map (entsG encKey AV.bool m 0) m.length]) := by
  cases m with
  | nil => exact risK_nil
  | cons x r => exact risK_ok (x :: r) (by omega) (Nat.zero_lt_succ _)
noncomputable def C25 : Cfg := { P := Tryz.prog, G := G, pol := pol, rounds := 100000, hook := hookK }
theorem hookK_ok : HookOK C25 := by
  intro f args h v h' e0 pl M w vs hg hr hv
  have e : hookK f args h = some (v, h') := e0
  clear e0
  unfold hookK at e
  split at e
  · rename_i id hf
    have hf := Nat.eq_of_beq_eq_true hf
    subst hf
    split at e
    · rename_i es c hget
      split at e
      · rename_i m hm
        split at e
        · rename_i hb
          rw [Bool.and_eq_true] at hb
          have h1 := Nat.eq_of_beq_eq_true hb.1
          have h2 := Nat.le_of_ble_eq_true hb.2
          have h3 := decEnts_ok hm
          subst h3; subst h1
          simp only [Option.some.injEq, Prod.mk.injEq] at e
          obtain ⟨rfl, rfl⟩ := e
          have hc := HCall.ofMap gtop (entTops_key m 0) (by cases m <;> rfl) (risK_any m h2) hget
          rcases hc pl M w vs hg hr hv with ⟨q1, q2⟩ | ⟨cv, w', v1, h1, q1, ⟨q2, q3⟩, q4⟩
          · exact .inl ⟨q1, Calls.mono q2 fun e w' ⟨cv, v1, h1, k1, ⟨k2, k3⟩, k4⟩ => ⟨cv, k1, by subst k2; subst k3; exact k4⟩⟩
          · exact .inr ⟨cv, w', q1, by subst q2; subst q3; exact q4⟩
        · cases e
      · cases e
    · cases e
  · cases e
theorem ev25 (k : Nat) : CallerOK Tryz.prog G (evFunc C25 k) := ev_ok (C := C25) noNG mixed hookK_ok k
theorem awake25 : HPure Tryz.prog G 7 [] (.bool true) := HPure.closed (C := C25) (k := 60) gtop (ev25 60) rfl (by kernel_rfl)
end Go.Proofs.YtjnecjhkmhhnnaaGreatDoor
