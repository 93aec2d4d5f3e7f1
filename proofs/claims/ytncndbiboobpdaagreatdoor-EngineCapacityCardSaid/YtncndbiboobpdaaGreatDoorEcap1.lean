/- An engine's gazettes: New, Add, Len, Work. -/
import Derived.Test.YtncndbiboobpdaaGreatDoorEva
import Derived.Test.YtncndbiboobpdaaGreatDoorMach5
namespace Go.Proofs.YtncndbiboobpdaaGreatDoor
open Go Go.Ev

noncomputable def map0 : AObj := .map [] 0
noncomputable def eng (sl : AV) : AObj := .row 3 false 0 [.agg [sl, .int .i64 0, .map 0]]
noncomputable def gaz (j : Int) : AV := .agg [.int .i64 j, .int .i64 0, .str [], .nils]
noncomputable def grow (xs : List AV) : AObj := .row 4 true 0 xs
noncomputable def gbox (j : Int) : AObj := .row 4 false 0 [gaz j]

theorem new_ok : HCall Tryz.prog G 5 [] AHeap.none (fun v h => v = .ptr 1 0 0 0 ∧ h = mkH [map0, eng .nils]) := HCall.of (ev 5) (by kernel_rfl)

theorem clip_nils : HPure Tryz.prog G 17 [.nils] .nils := HPure.of0 gtop rfl rfl ((HCall.of (ev 5) (h' := AHeap.none) (by kernel_rfl)).mono fun _ _ h => h.1)

/-- The first. -/
theorem add_first (j : Int) : HCall Tryz.prog G 6 [.ptr 1 0 0 0, gaz j] (mkH [map0, eng .nils]) (fun v h => v = .int .i64 0 ∧ h = mkH [map0, eng (.slice 3 0 0 1 none), gbox j, grow [gaz j]]) := by
  refine HCall.enter (fn := Tryz.f6) 2 Tryz.func6 (by kernel_rfl) rfl ⟨by kernel_rfl, by kernel_rfl⟩ ?_
  refine HCode.seq (HCode.pickB mixed (ev 10) 10 26 [(0, .ptr 1 0 0 0), (3, .ptr 2 0 0 0)] (x := .normal) (os := [map0, eng .nils, gbox j]) (by kernel_rfl) ?_)
  refine HCode.seq (HCode.seq (HCode.pickB mixed (ev 10) 10 26 [(0, .ptr 1 0 0 0), (3, .ptr 2 0 0 0), (10, .bool false)] (x := .normal) (os := [map0, eng .nils, gbox j]) (by kernel_rfl) ?_))
  refine HCode.cond (t := false) (by kernel_rfl) (fun h => by cases h) (fun _ => HCode.skip ?_)
  refine HCode.seq (HCode.pickB mixed (ev 10) 10 26 [(0, .ptr 1 0 0 0), (3, .ptr 2 0 0 0)] (x := .normal) (os := [map0, eng .nils, gbox j]) (by kernel_rfl) ?_)
  refine HCode.seq (HCode.draw mixed (by kernel_rfl) ?_)
  refine DGo.rd (ev 5) (.ptr 1 0 0 0) [] 15 rfl rfl (by kernel_rfl) (by kernel_rfl) ?_
  refine DGo.rd (ev 5) (.ptr 1 0 0 0) [] 16 rfl rfl (by kernel_rfl) (by kernel_rfl) ?_
  refine DGo.rd (ev 5) (.ptr 1 0 0 0) [] 17 rfl rfl (by kernel_rfl) (by kernel_rfl) ?_
  refine DGo.rd (ev 5) (.ptr 1 0 0 0) [] 18 rfl rfl (by kernel_rfl) (by kernel_rfl) ?_
  refine DGo.rd (ev 5) .nils [1] 19 rfl rfl (by kernel_rfl) (by kernel_rfl) ?_
  refine DGo.pure gtop 20 rfl rfl (by kernel_rfl) (args := [.nils]) (by kernel_rfl) rfl (v := .nils) rfl clip_nils (by kernel_rfl) ?_
  refine DGo.rd (ev 5) (gaz j) [2] 21 rfl rfl (by kernel_rfl) (by kernel_rfl) ?_
  refine DGo.rd (ev 5) (.ps [gaz j] true) [] 22 rfl rfl (by kernel_rfl) (by kernel_rfl) ?_
  refine DGo.ev (ev 5) (.slice 3 0 0 1 none) (mkH [map0, eng .nils, gbox j, grow [gaz j]]) (wr [] 3 4) 23 rfl rfl (by kernel_rfl) (by kernel_rfl) ?_
  refine DGo.rd (ev 5) (.ptr 1 0 0 0) [] 24 rfl rfl (by kernel_rfl) (by kernel_rfl) ?_
  refine DGo.rd (ev 5) (.ptr 1 0 0 0) [] 25 rfl rfl (by kernel_rfl) (by kernel_rfl) ?_
  refine DGo.ev0 (ev 5) undefA (mkH [map0, eng (.slice 3 0 0 1 none), gbox j, grow [gaz j]]) (wr [1] 4 4) rfl (by kernel_rfl) (by kernel_rfl) ?_
  refine DGo.done (by kernel_rfl) ?_
  refine HCode.pickB mixed (ev 10) 10 26 [(4, .int .i64 0)] (x := .ret) (os := [map0, eng (.slice 3 0 0 1 none), gbox j, grow [gaz j]]) (by kernel_rfl) ?_
  exact ⟨fun id h => (by cases h), .int .i64 0, by kernel_rfl, by kernel_rfl, by kernel_rfl⟩

/-- One too many. -/
theorem add_full (j : Int) (xs : List AV) : HCall Tryz.prog G 6 [.ptr 1 0 0 0, gaz j] (mkH [map0, eng (.slice 2 0 0 4096 none), grow xs])
    (fun v h => v = .int .i64 6 ∧ h = mkH [map0, eng (.slice 2 0 0 4096 none), grow xs, gbox j]) := by
  refine HCall.enter (fn := Tryz.f6) 2 Tryz.func6 (by kernel_rfl) rfl ⟨by kernel_rfl, by kernel_rfl⟩ ?_
  refine HCode.pickB mixed (ev 10) 10 26 [(4, .int .i64 6)] (x := .ret) (os := [map0, eng (.slice 2 0 0 4096 none), grow xs, gbox j]) (by kernel_rfl) ?_
  exact ⟨fun id h => (by cases h), .int .i64 6, by kernel_rfl, by kernel_rfl, by kernel_rfl⟩

/-- One of a slice's elements, all of them in sight. -/
theorem cut_all {h : AHeap} {id c : Nat} {op : Bool} {xs : List AV} (hg : h.get id = some (.row 4 op 0 xs)) (hx : xs.length = c) (hc : 0 < c) :
    sliceSl 4 h (some (.slice id 0 0 c none)) none (some (.int .i64 (.ofNat c))) (some (.int .i64 (.ofNat c))) = some (.slice id 0 0 c (some c)) := by
  obtain ⟨k, rfl⟩ : ∃ k, c = k + 1 := ⟨c - 1, by omega⟩
  have e1 : rowOf 4 h id 0 = some xs := by simp [rowOf, hg]
  have e2 : Nat.ble (k + 1) (k + 1) = true := by rw [ble_iff]; simp
  simp only [sliceSl, e1, natOr, natOf, room, hx, Nat.sub_zero, e2, cutSl]
  simp [Nat.ble, Nat.beq]

theorem clip_ok (c : Nat) (xs : List AV) (j : Int) (hx : xs.length = c) (hc : 0 < c) : HCall Tryz.prog G 17 [.slice 2 0 0 c none] (mkH [map0, eng (.slice 2 0 0 c none), grow xs, gbox j])
    (fun v h => v = .slice 2 0 0 c (some c) ∧ h = mkH [map0, eng (.slice 2 0 0 c none), grow xs, gbox j]) := by
  refine HCall.enter (fn := Tryz.f17) 2 Tryz.func17 (by kernel_rfl) rfl ⟨by kernel_rfl, by kernel_rfl⟩ ?_
  refine HCode.seq (HCode.pickB mixed (ev 10) 10 9 [(0, .slice 2 0 0 c none)] (x := .normal) (os := [map0, eng (.slice 2 0 0 c none), grow xs, gbox j]) (by kernel_rfl) ?_)
  refine HCode.seq (HCode.region ?_)
  refine HOps.pickN (ev 5) 5 9 [(3, .slice 2 0 0 c none), (5, .int .i64 (.ofNat c)), (7, .int .i64 (.ofNat c))] (os := [map0, eng (.slice 2 0 0 c none), grow xs, gbox j]) (by kernel_rfl) ?_
  have e : retV (mkH [map0, eng (.slice 2 0 0 c none), grow xs, gbox j]) (sliceSl 4 (mkH [map0, eng (.slice 2 0 0 c none), grow xs, gbox j]) (some (.slice 2 0 0 c none)) none (some (.int .i64 (.ofNat c))) (some (.int .i64 (.ofNat c)))) =
      some (.val (.slice 2 0 0 c (some c)) (mkH [map0, eng (.slice 2 0 0 c none), grow xs, gbox j])) := by
    rw [cut_all (op := true) (xs := xs) (by kernel_rfl) hx hc]; rfl
  simp only [List.drop_succ_cons, List.drop_zero]
  refine HOps.val (v := .slice 2 0 0 c (some c)) (h' := mkH [map0, eng (.slice 2 0 0 c none), grow xs, gbox j]) ?_ ?_ (putA_mkFr ?_ ?_) ?_
  · kernel_rfl
  · exact Eq.trans (by kernel_rfl) e
  · kernel_rfl
  · kernel_rfl
  refine HOps.val (v := .slice 2 0 0 c (some c)) (h' := mkH [map0, eng (.slice 2 0 0 c none), grow xs, gbox j]) ?_ ?_ (putA_mkFr ?_ ?_) (HOps.nil ?_)
  · kernel_rfl
  · kernel_rfl
  · kernel_rfl
  · kernel_rfl
  refine HCode.ret ⟨fun id h => (by cases h), .slice 2 0 0 c (some c), by kernel_rfl, by kernel_rfl, by kernel_rfl⟩

theorem append_full {h : AHeap} {id c : Nat} {op : Bool} {xs : List AV} {g : AV} (hg : h.get id = some (.row 4 op 0 xs)) (hx : xs.length = c) (hc : c < 4096) (hf : fits 4 [g] = true) :
    appendO 4 56 h (some (.slice id 0 0 c (some c))) (some (.ps [g] true)) = some (.slice h.n 0 0 (c + 1) none, h.push (.row 4 true 0 (xs ++ [g]))) := by
  have e1 : small (c + [g].length) 56 = true := by
    simp only [small, List.length_singleton, ble_iff, Bool.and_eq_true, decide_eq_true_eq]
    constructor <;> omega
  have e2 : Nat.ble (c + [g].length) c = false := by rw [ble_iff]; simp
  have e3 : xs.take c = xs := List.take_of_length_le (by omega)
  simp only [appendO, appendV, srcR, elemsR, appendR, hf, hg, e1, e2, newRowR, e3, List.drop_zero]
  simp [beq_iff, hx]

/-- One more. -/
theorem add_more (c : Nat) (xs : List AV) (j : Int) (hx : xs.length = c) (hc : 0 < c) (hc2 : c < 4096) (ht : AV.tops xs = 0) : HCall Tryz.prog G 6 [.ptr 1 0 0 0, gaz j] (mkH [map0, eng (.slice 2 0 0 c none), grow xs])
    (fun v h => v = .int .i64 0 ∧ h = mkH [map0, eng (.slice 4 0 0 (c + 1) none), grow xs, gbox j, grow (xs ++ [gaz j])]) := by
  refine HCall.enter (fn := Tryz.f6) 2 Tryz.func6 (by kernel_rfl) rfl ⟨by kernel_rfl, by kernel_rfl⟩ ?_
  refine HCode.seq (HCode.pickB mixed (ev 10) 10 26 [(0, .ptr 1 0 0 0), (3, .ptr 3 0 0 0)] (x := .normal) (os := [map0, eng (.slice 2 0 0 c none), grow xs, gbox j]) (by kernel_rfl) ?_)
  refine HCode.seq (HCode.seq (HCode.pickB mixed (ev 10) 10 26 [(0, .ptr 1 0 0 0), (3, .ptr 3 0 0 0), (10, .bool (!(Nat.blt c 4096)))] (x := .normal) (os := [map0, eng (.slice 2 0 0 c none), grow xs, gbox j]) (by kernel_rfl) ?_))
  have e0 : Nat.blt c 4096 = true := by rw [blt_iff]; simpa using hc2
  rw [e0]
  refine HCode.cond (t := false) (by kernel_rfl) (fun h => by cases h) (fun _ => HCode.skip ?_)
  refine HCode.seq (HCode.pickB mixed (ev 10) 10 26 [(0, .ptr 1 0 0 0), (3, .ptr 3 0 0 0)] (x := .normal) (os := [map0, eng (.slice 2 0 0 c none), grow xs, gbox j]) (by kernel_rfl) ?_)
  refine HCode.seq (HCode.draw mixed (by kernel_rfl) ?_)
  refine DGo.rd (ev 5) (.ptr 1 0 0 0) [] 15 rfl rfl (by kernel_rfl) (by kernel_rfl) ?_
  refine DGo.rd (ev 5) (.ptr 1 0 0 0) [] 16 rfl rfl (by kernel_rfl) (by kernel_rfl) ?_
  refine DGo.rd (ev 5) (.ptr 1 0 0 0) [] 17 rfl rfl (by kernel_rfl) (by kernel_rfl) ?_
  refine DGo.rd (ev 5) (.ptr 1 0 0 0) [] 18 rfl rfl (by kernel_rfl) (by kernel_rfl) ?_
  refine DGo.rd (ev 5) (.slice 2 0 0 c none) [1] 19 rfl rfl (by kernel_rfl) (by kernel_rfl) ?_
  have tops : ∀ o, o ∈ [map0, eng (.slice 2 0 0 c none), grow xs, gbox j] → o.top ≤ 4 := by
    intro o ho
    simp only [List.mem_cons, List.mem_nil_iff, or_false] at ho
    rcases ho with rfl | rfl | rfl | rfl
    · exact Nat.zero_le _
    · show Nat.mx (Nat.mx 3 (Nat.mx 0 (Nat.mx 1 0))) 0 ≤ 4
      decide
    · show AV.tops xs ≤ 4
      omega
    · exact Nat.zero_le _
  refine DGo.calls 20 rfl rfl (by kernel_rfl) (args := [.slice 2 0 0 c none]) (by kernel_rfl) (by kernel_rfl) (mkH_tops tops) (v := .slice 2 0 0 c (some c)) (clip_ok c xs j hx hc) (by kernel_rfl) ?_
  refine DGo.rd (ev 5) (gaz j) [3] 21 rfl rfl (by kernel_rfl) (by kernel_rfl) ?_
  refine DGo.rd (ev 5) (.ps [gaz j] true) [] 22 rfl rfl (by kernel_rfl) (by kernel_rfl) ?_
  refine DGo.wr (.slice 4 0 0 (c + 1) none) (mkH [map0, eng (.slice 2 0 0 c none), grow xs, gbox j, grow (xs ++ [gaz j])]) [2] 5 23 rfl rfl (by kernel_rfl) (by kernel_rfl) ?_ ?_ (by kernel_rfl) ?_
  · have : objsAt (mkH [map0, eng (.slice 2 0 0 c none), grow xs, gbox j]) 4 [2] = (Nat.ble (AV.tops xs) 4 && true) := by kernel_rfl
    show objsAt (mkH [map0, eng (.slice 2 0 0 c none), grow xs, gbox j]) 4 [2] = true
    rw [this, ht]; rfl
  · have e : dWriteEnd (mkH [map0, eng (.slice 2 0 0 c none), grow xs, gbox j]) ⟨4, onlyT (mkH [map0, eng (.slice 2 0 0 c none), grow xs, gbox j]) [2] .nil⟩ [2]
        (retH (appendO 4 56 ⟨4, onlyT (mkH [map0, eng (.slice 2 0 0 c none), grow xs, gbox j]) [2] .nil⟩ (some (.slice 2 0 0 c (some c))) (some (.ps [gaz j] true)))) =
        some (.slice 4 0 0 (c + 1) none, mkH [map0, eng (.slice 2 0 0 c none), grow xs, gbox j, grow (xs ++ [gaz j])], wr [2] 4 5) := by
      rw [append_full (op := true) (xs := xs) (by kernel_rfl) hx hc2 rfl]
      kernel_rfl
    exact Eq.trans (by kernel_rfl) e
  refine DGo.rd (ev 5) (.ptr 1 0 0 0) [] 24 rfl rfl (by kernel_rfl) (by kernel_rfl) ?_
  refine DGo.rd (ev 5) (.ptr 1 0 0 0) [] 25 rfl rfl (by kernel_rfl) (by kernel_rfl) ?_
  refine DGo.ev0 (ev 5) undefA (mkH [map0, eng (.slice 4 0 0 (c + 1) none), grow xs, gbox j, grow (xs ++ [gaz j])]) (wr [1] 5 5) rfl (by kernel_rfl) (by kernel_rfl) ?_
  refine DGo.done (by kernel_rfl) ?_
  refine HCode.pickB mixed (ev 10) 10 26 [(4, .int .i64 0)] (x := .ret) (os := [map0, eng (.slice 4 0 0 (c + 1) none), grow xs, gbox j, grow (xs ++ [gaz j])]) (by kernel_rfl) ?_
  exact ⟨fun id h => (by cases h), .int .i64 0, by kernel_rfl, by kernel_rfl, by kernel_rfl⟩

theorem len_ok (c : Nat) (xs : List AV) : HCall Tryz.prog G 7 [.ptr 1 0 0 0] (mkH [map0, eng (.slice 2 0 0 c none), grow xs]) (fun v h => v = .int .i64 (.ofNat c) ∧ h = mkH [map0, eng (.slice 2 0 0 c none), grow xs]) :=
  HCall.of (ev 5) (by kernel_rfl)
theorem len_ok0 : HCall Tryz.prog G 7 [.ptr 1 0 0 0] (mkH [map0, eng .nils]) (fun v h => v = .int .i64 0 ∧ h = mkH [map0, eng .nils]) :=
  HCall.of (ev 5) (by kernel_rfl)
theorem work_ok (c : Nat) (xs : List AV) : HCall Tryz.prog G 8 [.ptr 1 0 0 0] (mkH [map0, eng (.slice 2 0 0 c none), grow xs]) (fun v h => v = .int .i64 0 ∧ h = mkH [map0, eng (.slice 2 0 0 c none), grow xs]) :=
  HCall.of (ev 5) (by kernel_rfl)
theorem work_ok0 : HCall Tryz.prog G 8 [.ptr 1 0 0 0] (mkH [map0, eng .nils]) (fun v h => v = .int .i64 0 ∧ h = mkH [map0, eng .nils]) :=
  HCall.of (ev 5) (by kernel_rfl)

end Go.Proofs.YtncndbiboobpdaaGreatDoor
