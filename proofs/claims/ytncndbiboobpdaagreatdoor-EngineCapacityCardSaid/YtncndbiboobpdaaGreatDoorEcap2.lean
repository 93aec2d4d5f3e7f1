/- The law of an engine's capacity: whatever the input, true. -/
import Derived.Test.YtncndbiboobpdaaGreatDoorEcap1
import Derived.Test.YtncndbiboobpdaaGreatDoorEvc32
namespace Go.Proofs.YtncndbiboobpdaaGreatDoor
open Go Go.Ev

/-- No more than 4096. -/
def sat (i : Nat) : Nat := min i 4096
theorem sat_lt {i : Nat} (h : i < 4096) : sat i = i := by unfold sat; omega
theorem sat_ge {i : Nat} (h : ¬ i < 4096) : sat i = 4096 := by unfold sat; omega
theorem sat_le (i : Nat) : sat i ≤ 4096 := by unfold sat; omega
theorem sat_succ (i : Nat) : sat (sat i + 1) = sat (i + 1) := by unfold sat; omega
theorem sat_iff (i : Nat) : sat i < 4096 ↔ i < 4096 := by unfold sat; omega

/-- An engine with 'c' gazettes, as the loop sees it. -/
def HeapC (c : Nat) (h : AHeap) : Prop :=
  (c = 0 ∧ h = mkH [map0, eng .nils]) ∨ (0 < c ∧ ∃ xs : List AV, xs.length = c ∧ AV.tops xs = 0 ∧ h = mkH [map0, eng (.slice 2 0 0 c none), grow xs])

/-- What of 'h' still counts is 'hc', under other numbers. -/
def Shrinks (h hc : AHeap) : Prop :=
  ∃ ρ : Nat → Nat, (∀ i j, i < hc.n → j < hc.n → ρ i = ρ j → i = j) ∧ ρ 1 = 1 ∧ 1 < hc.n ∧ ∀ id o, hc.get id = some o → h.get (ρ id) = some (renO ρ o) ∧ o.top ≤ hc.n

theorem shrinks_of {h : AHeap} {r c : Nat} {ys : List AV} (hr : 2 ≤ r) (ht : AV.tops ys = 0) (e0 : h.get 0 = some map0) (e1 : h.get 1 = some (eng (.slice r 0 0 c none))) (e2 : h.get r = some (grow ys)) :
    Shrinks h (mkH [map0, eng (.slice 2 0 0 c none), grow ys]) := by
  refine ⟨fun id => if id = 2 then r else id, fun i j hi hj => ?_, by simp, by show 1 < 3; omega, fun id o hg => ?_⟩
  · have hi : i < 3 := hi
    have hj : j < 3 := hj
    by_cases h1 : i = 2 <;> by_cases h2 : j = 2 <;> simp [h1, h2] <;> omega
  · have hm := mkH_get hg
    match id, hm with
    | 0, hm =>
      simp at hm; subst hm
      exact ⟨by simpa [map0, renO, renEnts] using e0, by show (0 : Nat) ≤ 3; omega⟩
    | 1, hm =>
      simp at hm; subst hm
      exact ⟨by simpa [eng, renO, rens, ren] using e1, by show Nat.mx (Nat.mx 3 (Nat.mx 0 (Nat.mx 1 0))) 0 ≤ 3; decide⟩
    | 2, hm =>
      simp at hm; subst hm
      refine ⟨?_, by show AV.tops ys ≤ 3; omega⟩
      simp only [grow, renO, if_true, rens_plain _ ys ht]
      exact e2
    | n + 3, hm => simp at hm

/-- Add, whatever there is. -/
theorem add_ok {c : Nat} {h : AHeap} (hc : HeapC c h) (hc2 : c ≤ 4096) (j : Int) : HCall Tryz.prog G 6 [.ptr 1 0 0 0, gaz j] h
    (fun v h' => v = .int .i64 (if c < 4096 then 0 else 6) ∧ ∃ hc', HeapC (sat (c + 1)) hc' ∧ Shrinks h' hc') := by
  have hg : AV.tops [gaz j] = 0 := rfl
  rcases hc with ⟨rfl, rfl⟩ | ⟨h0, xs, hx, ht, rfl⟩
  · refine (add_first j).mono fun v h' ⟨h1, h2⟩ => ⟨by simp [h1], _, .inr ⟨by rw [sat_lt (by omega)]; omega, [gaz j], by rw [sat_lt (by omega)]; rfl, hg, rfl⟩, ?_⟩
    subst h2
    rw [sat_lt (by omega)]
    exact shrinks_of (r := 3) (by omega) hg (by kernel_rfl) (by kernel_rfl) (by kernel_rfl)
  · by_cases hlt : c < 4096
    · refine (add_more c xs j hx h0 hlt ht).mono fun v h' ⟨h1, h2⟩ => ⟨by simp [h1, hlt], _, .inr ⟨?_, xs ++ [gaz j], ?_, ?_, rfl⟩, ?_⟩
      · have := sat_le (c + 1)
        unfold sat; omega
      · simp [hx]; unfold sat; omega
      · have := tops_append (n := 0) (Nat.le_of_eq ht) (Nat.le_of_eq hg); omega
      · subst h2
        rw [show sat (c + 1) = c + 1 by unfold sat; omega]
        exact shrinks_of (r := 4) (by omega) (by have := tops_append (n := 0) (Nat.le_of_eq ht) (Nat.le_of_eq hg); omega) (by kernel_rfl) (by kernel_rfl) (by kernel_rfl)
    · obtain rfl : c = 4096 := by omega
      refine (add_full j xs).mono fun v h' ⟨h1, h2⟩ => ⟨by simp [h1], _, .inr ⟨by rw [sat_ge (by omega)]; omega, xs, by rw [sat_ge (by omega)]; exact hx, ht, rfl⟩, ?_⟩
      subst h2
      rw [sat_ge (by omega)]
      exact shrinks_of (r := 2) (by omega) ht (by kernel_rfl) (by kernel_rfl) (by kernel_rfl)

/-- The smaller of the two. -/
def minV (m : Nat) : Int := match ltI 4096 (Int.ofNat m) with | true => 4096 | false => Int.ofNat m
theorem minV_sat (m : Nat) : eqI (Int.ofNat (sat m)) (minV m) = true := by
  unfold minV
  rw [eqI_eq, ltI_eq]
  by_cases h : (4096 : Int) < Int.ofNat m
  · have h1 : ¬ m < 4096 := by simp at h; omega
    rw [show decide ((4096 : Int) < Int.ofNat m) = true from decide_eq_true h, sat_ge h1]
    rfl
  · rw [show decide ((4096 : Int) < Int.ofNat m) = false from decide_eq_false h]
    have : sat m = m := by
      simp at h
      unfold sat; omega
    rw [this]
    exact beq_self_eq_true _

/-- The loop's frame. -/
noncomputable def capFr (k i : Nat) : List (Nat × AV) := [(0, .int .u16 (.ofNat k)), (3, .ptr 1 0 0 0), (11, .int .i64 (.ofNat (k % 5000))), (12, .int .i64 (.ofNat i))]

def capInv (k n : Nat) (s : St) : Prop := ∃ i h, i ≤ k % 5000 ∧ n = k % 5000 - i ∧ HeapC (sat i) h ∧ s = ⟨mkFr 40 (capFr k i), h⟩

theorem wrap_one {i : Nat} (h : i < 5000) : IntKind.i64.wrap (Int.ofNat i + 1) = Int.ofNat (i + 1) := IntWalk.i64_in _ (by simp; omega)
theorem wrap_one' {i : Nat} (h : i < 5000) : IntKind.i64.wrap (1 + Int.ofNat i) = Int.ofNat (1 + i) := by
  rw [IntWalk.i64_in _ (by simp; omega)]; simp

theorem cap_ok (k : Nat) (hk : k < 65536) : HCall Tryz.prog G 3 [.int .u16 (.ofNat k)] AHeap.none (fun v _ => v = .bool true) := by
  have hm : k % 5000 < 5000 := Nat.mod_lt _ (by omega)
  have hw : IntKind.i64.wrap ((Int.ofNat k).tmod 5000) = Int.ofNat (k % 5000) := by
    have : (Int.ofNat k).tmod 5000 = Int.ofNat (k % 5000) := rfl
    rw [this]
    exact IntWalk.i64_in _ (by simp; omega)
  refine HCall.enter (fn := Tryz.f3) 0 Tryz.func3 (by kernel_rfl) rfl ⟨by kernel_rfl, by kernel_rfl⟩ ?_
  refine HCode.seq (HCode.pickB mixed (ev 10) 10 40 [(0, .int .u16 (.ofNat k))] (x := .normal) (os := []) (by kernel_rfl) ?_)
  refine HCode.seq (HCode.pickB mixed (ev 10) 10 40 [(0, .int .u16 (.ofNat k)), (3, .ptr 1 0 0 0)] (x := .normal) (os := [map0, eng .nils]) (by kernel_rfl) ?_)
  refine HCode.seq (HCode.seq (HCode.pickB mixed (ev 10) 10 40 [(0, .int .u16 (.ofNat k)), (3, .ptr 1 0 0 0), (8, .bool false)] (x := .normal) (os := [map0, eng .nils]) (by kernel_rfl) ?_))
  refine HCode.cond (t := false) (by kernel_rfl) (fun h => by cases h) (fun _ => HCode.skip ?_)
  refine HCode.seq (HCode.seq (HCode.pickB mixed (ev 10) 10 40 [(0, .int .u16 (.ofNat k)), (3, .ptr 1 0 0 0), (11, .int .i64 (IntKind.i64.wrap ((Int.ofNat k).tmod 5000))), (12, .int .i64 (.ofNat 0))] (x := .normal) (os := [map0, eng .nils]) (by kernel_rfl) ?_))
  rw [hw]
  refine HCode.block (HCode.loop (capInv k) (k % 5000) ⟨0, _, Nat.zero_le _, rfl, .inl ⟨rfl, rfl⟩, rfl⟩ fun n s hI => ?_)
  obtain ⟨i, h, hi, hn, hc, rfl⟩ := hI
  refine HCode.seq (HCode.pickV mixed (ev 10) 10 40 (capFr k i ++ [(13, .bool (Nat.blt i (k % 5000)))]) h (x := .normal) (by kernel_rfl) ?_)
  rw [blt_iff]
  refine HCode.seq (HCode.cond (t := decide (i < k % 5000)) (by kernel_rfl) (fun ht => HCode.skip ?_) (fun ht => HCode.exit ?_))
  · -- a round
    have hlt : i < k % 5000 := by simpa using ht
    refine HCode.seq (HCode.block ?_)
    refine HCode.seq (HCode.pickV mixed (ev 10) 10 40 (capFr k i ++ [(4, .int .i64 (.ofNat i))]) h (x := .normal) (by kernel_rfl) ?_)
    refine HCode.seq (HCode.pickV mixed (ev 10) 10 40 (capFr k i ++ [(4, .int .i64 (.ofNat i)), (5, .int .i64 0)]) h (x := .normal) (by kernel_rfl) ?_)
    refine HCode.seq (HCode.mid ⟨mkFr 40 (capFr k i ++ [(4, .int .i64 (.ofNat i)), (5, .int .i64 (if sat i < 4096 then 0 else 6))]), h⟩ (HCode.seq (HCode.pickV mixed (ev 10) 10 40 (capFr k i ++ [(4, .int .i64 (.ofNat i)), (5, .int .i64 0), (16, .bool (!(Nat.blt i 4096)))]) h (x := .normal) (by kernel_rfl) ?_)) ?_)
    · rw [blt_iff]
      refine HCode.cond (t := !(decide (i < 4096))) (by kernel_rfl) (fun ht => ?_) (fun ht => HCode.sub (s' := ⟨mkFr 40 (capFr k i ++ [(4, .int .i64 (.ofNat i)), (5, .int .i64 0)]), h⟩) ⟨rfl, fun t v hh => ?_, Nat.le_refl _, fun _ _ h => h⟩ (HCode.skip ⟨rfl, ?_⟩))
      · have h1 : ¬ i < 4096 := by simpa using ht
        have h2 : ¬ sat i < 4096 := by rw [sat_iff]; exact h1
        rw [if_neg h2]
        exact HCode.pickV mixed (ev 10) 10 40 (capFr k i ++ [(4, .int .i64 (.ofNat i)), (5, .int .i64 6)]) h (x := .normal) (by kernel_rfl) ⟨rfl, rfl⟩
      · have := mkFr_get hh
        simp only [capFr, List.cons_append, List.nil_append, List.mem_cons, Prod.mk.injEq, List.mem_nil_iff, or_false] at this
        rcases this with ⟨rfl, rfl⟩ | ⟨rfl, rfl⟩ | ⟨rfl, rfl⟩ | ⟨rfl, rfl⟩ | ⟨rfl, rfl⟩ | ⟨rfl, rfl⟩ <;> rfl
      · have h1 : i < 4096 := by simpa using ht
        have h2 : sat i < 4096 := by rw [sat_iff]; exact h1
        rw [if_pos h2]
    -- the call of Add
    refine HCode.seq (HCode.region ?_)
    refine HOps.pickV (ev 10) 4 40 (capFr k i ++ [(4, .int .i64 (.ofNat i)), (5, .int .i64 (if sat i < 4096 then 0 else 6)), (17, .ptr 1 0 0 0), (20, .agg [.int .i64 (IntKind.i64.wrap (1 + Int.ofNat i)), .int .i64 0, .str [], .nils])]) h (by kernel_rfl) ?_
    simp only [List.drop_succ_cons, List.drop_zero]
    refine HOps.calls (f := 6) (args := [.ptr 1 0 0 0, gaz (IntKind.i64.wrap (1 + Int.ofNat i))]) (by kernel_rfl) (by kernel_rfl) (add_ok hc (sat_le i) _) fun v h' ⟨hv, hc', hH, ρ, r1, r2, r3, r4⟩ => ?_
    subst hv
    generalize (if sat i < 4096 then (0 : Int) else 6) = q
    refine ⟨_, putA_mkFr rfl rfl, ?_⟩
    refine HOps.gc (s' := ⟨mkFr 40 (capFr k i ++ [(5, .int .i64 q), (21, .int .i64 q)]), hc'⟩) gtop ρ r1 rfl (fun t v hh => ?_) r4 ?_
    · have := mkFr_get hh
      simp only [capFr, List.cons_append, List.nil_append, List.mem_cons, Prod.mk.injEq, List.mem_nil_iff, or_false] at this
      rcases this with ⟨rfl, rfl⟩ | ⟨rfl, rfl⟩ | ⟨rfl, rfl⟩ | ⟨rfl, rfl⟩ | ⟨rfl, rfl⟩ | ⟨rfl, rfl⟩
      · exact ⟨rfl, Nat.zero_le _⟩
      · exact ⟨by simp only [ren, r2]; rfl, r3⟩
      · exact ⟨rfl, Nat.zero_le _⟩
      · exact ⟨rfl, Nat.zero_le _⟩
      · exact ⟨rfl, Nat.zero_le _⟩
      · exact ⟨rfl, Nat.zero_le _⟩
    refine HOps.pickV (ev 10) 2 40 (capFr k i ++ [(23, .bool (!(eqI q q)))]) hc' (by kernel_rfl) (HOps.nil ?_)
    rw [show (!(eqI q q)) = false by rw [eqI_eq]; simp]
    refine HCode.cond (t := false) (by kernel_rfl) (fun h => by cases h) (fun _ => HCode.skip ?_)
    -- the next round
    refine HCode.pickV mixed (ev 10) 10 40 [(0, .int .u16 (.ofNat k)), (3, .ptr 1 0 0 0), (11, .int .i64 (.ofNat (k % 5000))), (12, .int .i64 (IntKind.i64.wrap (Int.ofNat i + 1)))] hc' (x := .normal) (by kernel_rfl) ?_
    rw [wrap_one (by omega)]
    exact ⟨n - 1, by omega, i + 1, hc', by omega, by omega, by rw [← sat_succ]; exact hH, rfl⟩
  · -- behind the loop
    have he : i = k % 5000 := by
      have : ¬ i < k % 5000 := by simpa using ht
      omega
    subst he
    rcases hc with ⟨h0, rfl⟩ | ⟨h0, xs, hx, _, rfl⟩
    · refine HCode.seq (HCode.region ?_)
      refine HOps.pickN (ev 10) 5 40 [(0, .int .u16 (.ofNat k)), (3, .ptr 1 0 0 0), (26, .int .i64 0), (29, .int .i64 (IntKind.i64.wrap ((Int.ofNat k).tmod 5000)))] (os := [map0, eng .nils]) (by kernel_rfl) ?_
      rw [hw]
      refine HOps.pickN (ev 10) 2 40 [(3, .ptr 1 0 0 0), (31, .bool (eqI (Int.ofNat 0) (minV (k % 5000))))] (os := [map0, eng .nils]) (by kernel_rfl) ?_
      have hq := minV_sat (k % 5000)
      rw [h0] at hq
      rw [hq]
      refine HOps.pickN (ev 10) 6 40 [(37, .bool true)] (os := [map0, eng .nils]) (by kernel_rfl) ?_
      simp only [List.drop_succ_cons, List.drop_zero]
      refine HOps.calls (f := 9) (args := []) (by kernel_rfl) (by kernel_rfl) (awake32 _) fun v h' ⟨hv, hh⟩ => ?_
      subst hv; subst hh
      refine ⟨_, putA_mkFr rfl rfl, ?_⟩
      refine HOps.pickN (ev 10) 2 40 [(2, .bool true)] (os := [map0, eng .nils]) (by kernel_rfl) (HOps.nil ?_)
      exact HCode.ret ⟨fun id h => (by cases h), .bool true, by kernel_rfl, leave_bool _ _ _ _⟩
    · refine HCode.seq (HCode.region ?_)
      refine HOps.pickN (ev 10) 5 40 [(0, .int .u16 (.ofNat k)), (3, .ptr 1 0 0 0), (26, .int .i64 (.ofNat (sat (k % 5000)))), (29, .int .i64 (IntKind.i64.wrap ((Int.ofNat k).tmod 5000)))] (os := [map0, eng (.slice 2 0 0 (sat (k % 5000)) none), grow xs]) (by kernel_rfl) ?_
      rw [hw]
      refine HOps.pickN (ev 10) 2 40 [(3, .ptr 1 0 0 0), (31, .bool (eqI (Int.ofNat (sat (k % 5000))) (minV (k % 5000))))] (os := [map0, eng (.slice 2 0 0 (sat (k % 5000)) none), grow xs]) (by kernel_rfl) ?_
      rw [minV_sat]
      refine HOps.pickN (ev 10) 6 40 [(37, .bool true)] (os := [map0, eng (.slice 2 0 0 (sat (k % 5000)) none), grow xs]) (by kernel_rfl) ?_
      simp only [List.drop_succ_cons, List.drop_zero]
      refine HOps.calls (f := 9) (args := []) (by kernel_rfl) (by kernel_rfl) (awake32 _) fun v h' ⟨hv, hh⟩ => ?_
      subst hv; subst hh
      refine ⟨_, putA_mkFr rfl rfl, ?_⟩
      refine HOps.pickN (ev 10) 2 40 [(2, .bool true)] (os := [map0, eng (.slice 2 0 0 (sat (k % 5000)) none), grow xs]) (by kernel_rfl) (HOps.nil ?_)
      exact HCode.ret ⟨fun id h => (by cases h), .bool true, by kernel_rfl, leave_bool _ _ _ _⟩

end Go.Proofs.YtncndbiboobpdaaGreatDoor
