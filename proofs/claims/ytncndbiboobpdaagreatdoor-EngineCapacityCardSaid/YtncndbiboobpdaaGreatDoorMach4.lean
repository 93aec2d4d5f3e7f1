/- An abstract machine for closed runs and for walks, proved sound against the model: part 4 of 5. No conditions. -/
import Derived.Test.YtncndbiboobpdaaGreatDoorMach3
import Derived.OpenShut
import Derived.ChangeArms
import Derived.ProofKit
import Derived.LaidMore

/- Regions that draw their order: one operation, wherever it comes. -/
namespace Go.Ev
open Go

section
variable {P : Program} {G : Env} {pl pl' : Pl} {M M' : Mem} {h h' hv : AHeap} {w w' : World} {v : AV} {A F : Fr} {a : Act} {call : Caller}

/-- What an operation is shown lies in the world as the rest does. -/
theorem shown_rep {nk : Nat} {g : Nat → Option AObj} (hr : RepF pl M nk g w) (hvg : ∀ id o, hv.get id = some o → g id = some o) (ho : ∀ id o, hv.get id = some o → o.top ≤ hv.n) :
    Rep (cutPl pl hv.n) M hv w := by
  refine ⟨fun id p hp => (cutPl_some.1 hp).1, fun id p o hp hg => ?_, fun id p hp => hr.blk id p (cutPl_some.1 hp).2, fun id id' p p' h1 h2 => hr.inj id id' p p' (cutPl_some.1 h1).2 (cutPl_some.1 h2).2, hr.imm, fun id p hp => hr.sep id p (cutPl_some.1 hp).2⟩
  obtain ⟨h1, h2⟩ := cutPl_some.1 hp
  exact (hr.obj id p o h2 (hvg id o hg)).agree (ho id o hg) cutPl_ext_low (fun _ _ h => h)

theorem shown_val {nk n0 : Nat} {g : Nat → Option AObj} {W : Nat → Prop} {o : Oper} (hr : RepF pl M nk g w) (hn0 : n0 ≤ hv.n) (hvg : ∀ id o, hv.get id = some o → g id = some o) (ho : ∀ id o, hv.get id = some o → o.top ≤ hv.n)
    (hf : FrRel (cutPl pl hv.n) M A a) (hg : GOk G (cutPl pl hv.n) M) (e : (opR P G o.op).run A hv = some (.val v h')) (hnk : h'.n = hv.n ∨ h'.n ≤ nk)
    (hU : ∀ id, hv.n ≤ id → id < h'.n → pl id = none) (W1 : ∀ id, id < hv.n → ¬ W id → hv.get id ≠ none → h'.get id = hv.get id)
    (W2 : ∀ id, W id → id < hv.n → hv.get id ≠ none) (W3 : ∀ id, W id → id < h'.n) (W4 : ∀ id, hv.n ≤ id → id < h'.n → W id)
    {K : Act → World → Prop} {Q : Exit → Act → World → Prop}
    (hK : ∀ cv w' pl' M', RepF pl' M' nk (mergeG W g h'.get) w' → StepF n0 g pl M w (mergeG W g h'.get) pl' M' w' → VRel pl' M' v cv → Ext pl pl' → (∀ id, h'.n ≤ id → pl' id = pl id) → K (a.put o.dst cv) w') :
    o.wp P a w K Q := by
  obtain ⟨dst, op, ty, pos, after, guard⟩ := o
  obtain ⟨pl1, M1, cv, w1, nx, q1, q2, q3, q4, q5, q6⟩ := ok_all (P := P) (G := G) op (cutPl pl hv.n) M A hv v h' a w dst ty pos after guard hg (shown_rep hr hvg ho) hf e
  obtain ⟨r1, r2, r3, r4⟩ := merge hr hn0 hvg q4 q5 q6 hnk hU W1 W2 W3 W4
  have key := hK cv w1 _ M1 r1 r2 (q3.mono r3 (fun _ _ h => h)) r4 (fun id hid => by simp [mergePl, Nat.not_lt.2 hid])
  unfold Oper.wp
  rw [q1]
  rcases q2 with rfl | ⟨rfl, rfl⟩
  · exact key
  · exact key

theorem shown_call {nk n0 : Nat} {g : Nat → Option AObj} {W : Nat → Prop} {o : Oper} (hc : CallerOK P G call) (hr : RepF pl M nk g w) (hn0 : n0 ≤ hv.n) (hvg : ∀ id o, hv.get id = some o → g id = some o) (ho : ∀ id o, hv.get id = some o → o.top ≤ hv.n)
    (hf : FrRel (cutPl pl hv.n) M A a) (hg : GOk G (cutPl pl hv.n) M) {f : FuncId} {args : List AV} (e : (opR P G o.op).run A hv = some (.call f args)) (e2 : call f args hv = some (v, h')) (hnk : h'.n = hv.n ∨ h'.n ≤ nk)
    (hU : ∀ id, hv.n ≤ id → id < h'.n → pl id = none) (W1 : ∀ id, id < hv.n → ¬ W id → hv.get id ≠ none → h'.get id = hv.get id)
    (W2 : ∀ id, W id → id < hv.n → hv.get id ≠ none) (W3 : ∀ id, W id → id < h'.n) (W4 : ∀ id, hv.n ≤ id → id < h'.n → W id)
    {K : Act → World → Prop} {Q : Exit → Act → World → Prop}
    (hK : ∀ cv w' pl' M', RepF pl' M' nk (mergeG W g h'.get) w' → StepF n0 g pl M w (mergeG W g h'.get) pl' M' w' → VRel pl' M' v cv → Ext pl pl' → (∀ id, h'.n ≤ id → pl' id = pl id) → K (a.put o.dst cv) w') :
    o.wp P a w K Q := by
  obtain ⟨vs, k1, k2⟩ := ok_call (P := P) (w := w) hg hf e
  have fin : ∀ cv w1, After (cutPl pl hv.n) M hv w v h' cv w1 → K (a.put o.dst cv) w1 := by
    intro cv w1 ⟨pl1, M1, q3, q4, q5, q6⟩
    obtain ⟨r1, r2, r3, r4⟩ := merge hr hn0 hvg q4 q5 q6 hnk hU W1 W2 W3 W4
    exact hK cv w1 _ M1 r1 r2 (q3.mono r3 (fun _ _ h => h)) r4 (fun id hid => by simp [mergePl, Nat.not_lt.2 hid])
  unfold Oper.wp
  rw [k2]
  rcases hc f args hv v h' e2 _ M w vs hg (shown_rep hr hvg ho) k1 with ⟨q1, q2⟩ | ⟨cv, w1, q1, q2⟩
  · rw [q1]
    refine Calls.mono q2 fun en w'' hh => ?_
    obtain ⟨cv, rfl, hh⟩ := hh
    exact fin cv w'' hh
  · rw [q1]
    exact fin cv w1 q2

end
end Go.Ev

/- Regions that draw their order: what one operation's run there says. -/
namespace Go.Ev
open Go

section
variable {P : Program} {G : Env} {pl pl' : Pl} {M M' : Mem} {h h' h1 hv : AHeap} {w w' : World} {v : AV} {A F : Fr} {a : Act} {call : Caller}

theorem lookFr_rel {l : List Tmp} (hs : a.tmps.size = F.n) (hd : a.defers = []) (hF : ∀ t u, t ∈ l → F.get t = some u → t < F.n ∧ VRel pl M u (a.tmps.getD t undef)) : FrRel pl M ⟨F.n, lookFr F l .nil⟩ a := by
  refine ⟨hs, hd, fun t u ht => ?_⟩
  rcases lookFr_get ht with ⟨h1, h2⟩ | h1
  · exact hF t u h1 h2
  · rw [Tr.get_nil] at h1; cases h1

theorem laid_get {ids : List Nat} : ∀ {H H' : AHeap}, laid hv h' ids H = some H' → H'.n = H.n ∧ ∀ id o, H'.get id = some o → (id ∈ ids ∧ hv.get id ≠ none ∧ h'.get id = some o) ∨ ((id ∈ ids → hv.get id = none) ∧ H.get id = some o) := by
  induction ids with
  | nil => intro H H' e; simp [laid] at e; subst e; exact ⟨rfl, fun id o h => .inr ⟨fun h => by simp at h, h⟩⟩
  | cons x r ih =>
    intro H H' e
    simp only [laid] at e
    cases hx : hv.get x with
    | none =>
      rw [hx] at e
      obtain ⟨k1, k2⟩ := ih e
      refine ⟨k1, fun id o h => ?_⟩
      rcases k2 id o h with ⟨q1, q2⟩ | ⟨q1, q2⟩
      · exact .inl ⟨List.mem_cons_of_mem _ q1, q2⟩
      · refine .inr ⟨fun hm => ?_, q2⟩
        rcases List.mem_cons.1 hm with rfl | hm
        · exact hx
        · exact q1 hm
    | some y =>
      cases hy : h'.get x with
      | none => simp [hx, hy] at e
      | some o1 =>
        simp only [hx, hy] at e
        obtain ⟨k1, k2⟩ := ih e
        have hlt := (AHeap.get_some.1 hx).2.1
        refine ⟨k1, fun id o h => ?_⟩
        rcases k2 id o h with ⟨q1, q2⟩ | ⟨q1, q2⟩
        · exact .inl ⟨List.mem_cons_of_mem _ q1, q2⟩
        · rcases AHeap.get_put hlt q2 with ⟨rfl, rfl⟩ | ⟨q3, q4⟩
          · exact .inl ⟨by simp, by rw [hx]; simp, hy⟩
          · refine .inr ⟨fun hm => ?_, q4⟩
            rcases List.mem_cons.1 hm with rfl | hm
            · exact absurd rfl q3
            · exact q1 hm

theorem laidNew_get {H H' : AHeap} (hH : H.n = h.n) (e : laidNew h h' H = some H') : H'.n = h'.n ∧ h.n ≤ h'.n ∧ ∀ id o, H'.get id = some o → (id < h.n ∧ H.get id = some o) ∨ (h.n ≤ id ∧ h'.get id = some o) := by
  unfold laidNew at e
  rw [beq_iff] at e
  by_cases q : h'.n = h.n
  · simp [q] at e
    subst e
    refine ⟨by omega, by omega, fun id o h => .inl ⟨?_, h⟩⟩
    have := (AHeap.get_some.1 h).1
    omega
  · simp only [q, decide_false] at e
    rw [beq_iff] at e
    by_cases q2 : h'.n = h.n + 1
    · simp only [q2, decide_true] at e
      cases hg : h'.get h.n with
      | none => simp [hg] at e
      | some o1 =>
        simp [hg] at e
        subst e
        refine ⟨by simp [AHeap.push]; omega, by omega, fun id o h => ?_⟩
        rcases AHeap.get_push h with ⟨rfl, rfl⟩ | ⟨k1, k2⟩
        · exact .inr ⟨by omega, by rw [hH]; exact hg⟩
        · exact .inl ⟨by omega, k2⟩
    · simp [q2] at e

end
end Go.Ev

/- The comparison of heaps. -/
namespace Go.Ev
open Go

theorem boolSame {a b : Bool} (h : ((a && b) || (!a && !b)) = true) : a = b := by cases a <;> cases b <;> simp_all
theorem optB_eq {a b : Option Nat} (h : optB a b = true) : a = b := by
  cases a <;> cases b <;> simp [optB, beq_iff] at h <;> simp [h]

mutual
theorem AV.same_eq : ∀ (x y : AV), AV.same x y = true → x = y
  | .bool a, y, h => by cases y <;> simp only [AV.same, Bool.false_eq_true] at h; rw [boolSame h]
  | .int j a, y, h => by
    cases y <;> simp only [AV.same, Bool.false_eq_true, Bool.and_eq_true, kindB_eq, eqI_eq, decide_eq_true_eq, beq_iff_eq] at h
    rw [h.1, h.2]
  | .str a, y, h => by cases y <;> simp only [AV.same, Bool.false_eq_true, eqB_eq, beq_iff_eq] at h; rw [h]
  | .nilp, y, h => by cases y <;> simp only [AV.same, Bool.false_eq_true] at h; rfl
  | .nils, y, h => by cases y <;> simp only [AV.same, Bool.false_eq_true] at h; rfl
  | .nilm, y, h => by cases y <;> simp only [AV.same, Bool.false_eq_true] at h; rfl
  | .nilf, y, h => by cases y <;> simp only [AV.same, Bool.false_eq_true] at h; rfl
  | .nili, y, h => by cases y <;> simp only [AV.same, Bool.false_eq_true] at h; rfl
  | .ptr a b c d, y, h => by
    cases y <;> simp only [AV.same, Bool.false_eq_true, Bool.and_eq_true, beq_iff, decide_eq_true_eq] at h
    obtain ⟨⟨⟨h1, h2⟩, h3⟩, h4⟩ := h
    rw [h1, h2, h3, h4]
  | .map a, y, h => by cases y <;> simp only [AV.same, Bool.false_eq_true, beq_iff, decide_eq_true_eq] at h; rw [h]
  | .slice a b c d e, y, h => by
    cases y <;> simp only [AV.same, Bool.false_eq_true, Bool.and_eq_true, beq_iff, decide_eq_true_eq] at h
    obtain ⟨⟨⟨⟨h1, h2⟩, h3⟩, h4⟩, h5⟩ := h
    rw [h1, h2, h3, h4, optB_eq h5]
  | .ps xs a, y, h => by
    cases y <;> simp only [AV.same, Bool.false_eq_true, Bool.and_eq_true] at h
    rw [AV.sames_eq _ _ h.1, boolSame h.2]
  | .pptr xs a b, y, h => by
    cases y <;> simp only [AV.same, Bool.false_eq_true, Bool.and_eq_true, beq_iff, decide_eq_true_eq] at h
    rw [AV.sames_eq _ _ h.1.1, h.1.2, h.2]
  | .iface t u, y, h => by
    cases y <;> simp only [AV.same, Bool.false_eq_true, Bool.and_eq_true, beq_iff, decide_eq_true_eq] at h
    rw [h.1, AV.same_eq _ _ h.2]
  | .agg a, y, h => by cases y <;> simp only [AV.same, Bool.false_eq_true] at h; rw [AV.sames_eq _ _ h]
  | .tuple a, y, h => by cases y <;> simp only [AV.same, Bool.false_eq_true] at h; rw [AV.sames_eq _ _ h]
  | .func fn a b, y, h => by
    cases fn <;> cases y <;> (try (rename_i fn2 _ _; cases fn2)) <;> simp only [AV.same, Bool.false_eq_true, Bool.and_eq_true, beq_iff, decide_eq_true_eq] at h
    rw [h.1.1, AV.sames_eq _ _ h.1.2, AV.sames_eq _ _ h.2]
theorem AV.sames_eq : ∀ (x y : List AV), AV.sames x y = true → x = y
  | [], [], _ => rfl
  | [], _ :: _, h => by simp [AV.sames] at h
  | _ :: _, [], h => by simp [AV.sames] at h
  | a :: as, b :: bs, h => by
    simp only [AV.sames, Bool.and_eq_true] at h
    rw [AV.same_eq a b h.1, AV.sames_eq as bs h.2]
end

theorem entsSame_eq : ∀ (x y : List AEnt), entsSame x y = true → x = y
  | [], [], _ => rfl
  | [], _ :: _, h => by simp [entsSame] at h
  | _ :: _, [], h => by simp [entsSame] at h
  | a :: as, b :: bs, h => by
    simp only [entsSame, Bool.and_eq_true, beq_iff, decide_eq_true_eq] at h
    obtain ⟨⟨⟨h1, h2⟩, h3⟩, h4⟩ := h
    rw [entsSame_eq as bs h4]
    cases a; cases b
    simp only at h1 h2 h3
    rw [AV.same_eq _ _ h1, AV.same_eq _ _ h2, h3]

theorem AObj.same_eq (x y : AObj) (h : AObj.same x y = true) : x = y := by
  cases x <;> cases y <;> simp only [AObj.same, Bool.false_eq_true, Bool.and_eq_true, beq_iff, decide_eq_true_eq] at h
  · rfl
  · obtain ⟨⟨⟨h1, h2⟩, h3⟩, h4⟩ := h
    rw [h1, boolSame h2, h3, AV.sames_eq _ _ h4]
  · rw [h.1, entsSame_eq _ _ h.2]

theorem sameTo_ok {h h' : AHeap} : ∀ (k : Nat), sameTo h h' k = true → ∀ id, id < k → h'.get id = h.get id
  | 0, _, id, hid => by omega
  | k + 1, e, id, hid => by
    unfold sameTo at e
    have key : sameTo h h' k = true ∧ h'.get k = h.get k := by
      cases h1 : h'.get k with
      | none =>
        cases h2 : h.get k with
        | none => rw [h1, h2] at e; exact ⟨e, rfl⟩
        | some o => rw [h1, h2] at e; simp at e
      | some o' =>
        cases h2 : h.get k with
        | none => rw [h1, h2] at e; simp at e
        | some o =>
          rw [h1, h2] at e
          simp only [] at e
          split at e
          · rename_i hs; exact ⟨e, by rw [AObj.same_eq _ _ hs]⟩
          · simp at e
    rcases Nat.lt_or_ge id k with h1 | h1
    · exact sameTo_ok k key.1 id h1
    · have : id = k := by omega
      rw [this]; exact key.2

end Go.Ev

/- Regions that draw their order: one operation there. -/
namespace Go.Ev
open Go

theorem StepF.weaken {n m : Nat} {g g' : Nat → Option AObj} {pl pl' : Pl} {M M' : Mem} {w w' : World} (h : StepF n g pl M w g' pl' M' w') (hm : m ≤ n) : StepF m g pl M w g' pl' M' w' :=
  ⟨h.ext, fun id hid hp => h.new id (by omega) hp, h.mem, h.size, h.kept, h.blks, h.live, h.stay, h.memNew, h.os, h.tape, h.out⟩

/-- What one operation's run in a region that draws its order says, wherever it comes. -/
structure DSpec (P : Program) (G : Env) (ops : Array Oper) (o : Oper) (look : List Tmp) (F : Fr) (h : AHeap) (v : AV) (h1 : AHeap) (r : Rec) : Prop where
  le : h.n ≤ h1.n
  keep : ∀ id o', ¬ r.wr.Holds id → h1.get id = some o' → h.get id = some o'
  new : ∀ id, h.n ≤ id → id < h1.n → r.wr.Holds id
  exec : ∀ (nk n0 : Nat) (g : Nat → Option AObj) (pl : Pl) (M : Mem) (a : Act) (w : World) (K : Act → World → Prop) (Q : Exit → Act → World → Prop), n0 ≤ h.n → h1.n ≤ nk → nk ≤ 1000000 → RepF pl M nk g w →
    (∀ id o', r.vis.Holds id → h.get id = some o' → g id = some o') → (∀ id, h.n ≤ id → id < h1.n → pl id = none) → GOk G (cutPl pl h.n) M → a.tmps.size = F.n → a.defers = [] →
    (∀ t u, t ∈ look → F.get t = some u → t < F.n ∧ VRel pl M u (a.tmps.getD t undef)) →
    (∀ cv w' pl' M' g', RepF pl' M' nk g' w' → StepF n0 g pl M w g' pl' M' w' → VRel pl' M' v cv → Ext pl pl' → (∀ id, pl id = none → (id < h.n ∨ h1.n ≤ id) → pl' id = none) →
      (∀ id, ¬ r.wr.Holds id → g' id = g id) → (∀ id o', r.wr.Holds id → h1.get id = some o' → g' id = some o') → K (a.put o.dst cv) w') →
    if Region.wanted o (yielded ops a.tmps) then o.wp P a w K Q ∨ (o.asks P a w ∧ LetsOut Q) else K (a.put o.dst undef) w

section
variable {P : Program} {G : Env} {pl pl' : Pl} {M M' : Mem} {h h' h1 hv : AHeap} {w w' : World} {v : AV} {A F : Fr} {a : Act} {call : Caller} {ops : Array Oper} {o : Oper} {d : DOper} {r : Rec}

theorem noneHolds {ids : List Nat} {id : Nat} : ¬ (⟨false, [], 0, 0⟩ : Ids).Holds id := by simp [Ids.Holds]

theorem dRead_ok (hd : d.r.op = opR P G o.op) (hk : kindOf o.op = 0) {ids : List Nat} (e : dRead F h d ids = some (v, h1, r)) (hg : guardR ⟨F.n, lookFr F d.look .nil⟩ (guardDst ops o) = some true) :
    DSpec P G ops o d.look F h v h1 r := by
  unfold dRead at e
  split at e
  · rename_i v2 h2 hrun
    simp at e
    obtain ⟨rfl, rfl, rfl⟩ := e
    rw [hd] at hrun
    have hh := reader_heap o.op hk hrun
    subst hh
    refine ⟨Nat.le_refl _, fun _ _ _ h => h, fun id h1 h2 => by omega, ?_⟩
    intro nk n0 g pl M a w K Q hn0 hnk hbig hr hvis hU hG hs hdf hF hK
    have hcut : cutPl pl 1000000 = pl := by
      funext id
      cases hp : pl id with
      | none => simp [cutPl, hp]
      | some p => exact cutPl_some.2 ⟨by have := hr.dom id p hp; omega, hp⟩
    have hvg : ∀ id o, (⟨1000000, onlyT h ids .nil⟩ : AHeap).get id = some o → g id = some o := fun id o' hh => by
      obtain ⟨k1, k2⟩ := only_get hh
      exact hvis id o' (.inr (.inl k1)) k2
    have hf : FrRel pl M ⟨F.n, lookFr F d.look .nil⟩ a := lookFr_rel hs hdf hF
    rw [guardR_ok hf hg]
    simp only [if_true]
    left
    have hG2 : GOk G pl M := hG.mono (fun id p hp => ⟨p, (cutPl_some.1 hp).2, Nat.le_refl _, fun _ => rfl⟩) (fun _ _ h => h)
    -- the objects shown name objects that lie in the world
    have rep : Rep pl M ⟨1000000, onlyT h ids .nil⟩ w :=
      ⟨fun id p hp => by have := hr.dom id p hp; show id < 1000000; omega, fun id p o' hp hh => hr.obj id p o' hp (hvg id o' hh), hr.blk, hr.inj, hr.imm, hr.sep⟩
    obtain ⟨dst, op, ty, pos, after, guard⟩ := o
    obtain ⟨pl1, M1, cv, w1, nx, q1, q2, q3, q4, q5, q6⟩ := ok_all (P := P) (G := G) op pl M _ _ v2 _ a w dst ty pos after guard hG2 rep hf hrun
    have q5' : Step ⟨1000000, onlyT h ids .nil⟩ (cutPl pl 1000000) M w ⟨1000000, onlyT h ids .nil⟩ pl1 M1 w1 := by rw [hcut]; exact q5
    obtain ⟨r1, r2, r3, r4⟩ := merge (n0 := 1000000) (W := fun _ => False) hr (Nat.le_refl _) hvg q4 q5' (Nat.le_refl _) (.inl rfl) (fun id k1 k2 => absurd k2 (by show ¬ id < 1000000; have : 1000000 ≤ id := k1; omega)) (fun _ _ _ _ => rfl) (fun _ h => h.elim) (fun _ h => h.elim) (fun id k1 k2 => absurd k2 (by show ¬ id < 1000000; have : 1000000 ≤ id := k1; omega))
    have key := hK cv w1 _ M1 _ r1 (r2.weaken (by have : h.n ≤ nk := hnk; omega)) (q3.mono r3 (fun _ _ h => h)) r4 (fun id hp hh => by
        by_cases hid : id < 1000000
        · exact r2.new id hid hp
        · simp [mergePl, hid, hp]) (fun id _ => mergeG_out (fun h => h)) (fun id o' hh => absurd hh (noneHolds (ids := [])))
    unfold Oper.wp
    rw [q1]
    rcases q2 with rfl | ⟨rfl, rfl⟩
    · exact key
    · exact key
  · simp at e

theorem cut_look (hs : a.tmps.size = F.n) (hd : a.defers = []) {l : List Tmp} {n : Nat} (ht : topsAt F n l = true) (hF : ∀ t u, t ∈ l → F.get t = some u → t < F.n ∧ VRel pl M u (a.tmps.getD t undef)) : FrRel (cutPl pl n) M ⟨F.n, lookFr F l .nil⟩ a :=
  lookFr_rel hs hd fun t u h1 h2 => ⟨(hF t u h1 h2).1, (hF t u h1 h2).2.agree (topsAt_ok ht t u h1 h2) cutPl_ext_low (fun _ _ h => h)⟩

theorem dWrite_ok (hd : d.r.op = opR P G o.op) {ids : List Nat} (e : dWrite F h d ids = some (v, h1, r)) (hg : guardR ⟨F.n, lookFr F d.look .nil⟩ (guardDst ops o) = some true) :
    DSpec P G ops o d.look F h v h1 r := by
  unfold dWrite at e
  split at e
  · rename_i hck
    simp only [Bool.and_eq_true] at hck
    obtain ⟨hck1, hck2⟩ := hck
    unfold dWriteOn dWriteEnd at e
    rw [hd] at e
    split at e
    · rename_i v2 h2 hrun
      split at e
      · rename_i H hla
        split at e
        · rename_i H1 hln
          simp at e
          obtain ⟨rfl, rfl, rfl⟩ := e
          obtain ⟨a1, a2⟩ := laid_get hla
          obtain ⟨b1, b2, b3⟩ := laidNew_get a1 hln
          refine ⟨by omega, fun id o' hno hg1 => ?_, fun id k1 k2 => .inr (.inr ⟨k1, by show id < h2.n; omega⟩), ?_⟩
          · rcases b3 id o' hg1 with ⟨k1, k2⟩ | ⟨k1, k2⟩
            · rcases a2 id o' k2 with ⟨q1, _⟩ | ⟨_, q1⟩
              · exact absurd (.inr (.inl q1)) hno
              · exact q1
            · exact absurd (.inr (.inr ⟨k1, (AHeap.get_some.1 k2).1⟩)) hno
          · intro nk n0 g pl M a w K Q hn0 hnk hbig hr hvis hU hG hs hdf hF hK
            have hf0 : FrRel pl M ⟨F.n, lookFr F d.look .nil⟩ a := lookFr_rel hs hdf hF
            rw [guardR_ok hf0 hg]
            simp only [if_true]
            left
            have hvg : ∀ id o, (⟨h.n, onlyT h ids .nil⟩ : AHeap).get id = some o → g id = some o := fun id o' hh => by
              obtain ⟨k1, k2⟩ := only_get hh
              exact hvis id o' (.inr (.inl k1)) k2
            refine shown_val (hv := ⟨h.n, onlyT h ids .nil⟩) (h' := h2) (n0 := h.n) (W := fun id => (id ∈ ids ∧ id < h.n ∧ (⟨h.n, onlyT h ids .nil⟩ : AHeap).get id ≠ none) ∨ (h.n ≤ id ∧ id < h2.n)) hr (Nat.le_refl _) hvg (fun id o' hh => objsAt_ok hck2 id o' (only_get hh).1 (only_get hh).2)
              (cut_look hs hdf hck1 hF) hG hrun (.inr (by omega)) (fun id k1 k2 => hU id k1 (by omega)) (fun id k1 k2 k3 => ?_) (fun id k1 k2 => ?_) (fun id k1 => ?_) (fun id k1 k2 => .inr ⟨k1, k2⟩) ?_
            · cases hh : (⟨h.n, onlyT h ids .nil⟩ : AHeap).get id with
              | none => exact absurd hh k3
              | some o' => exact absurd (.inl ⟨(only_get hh).1, k1, k3⟩) k2
            · rcases k1 with ⟨_, _, k⟩ | ⟨k, _⟩
              · exact k
              · exact absurd k2 (by show ¬ id < h.n; omega)
            · rcases k1 with ⟨_, k, _⟩ | ⟨_, k⟩ <;> omega
            · intro cv w' pl' M' r1 r2 r3 r4 r5
              refine hK cv w' pl' M' _ r1 (r2.weaken hn0) r3 r4 (fun id hp hh => ?_) (fun id hno => mergeG_out fun hW => ?_) (fun id o' hyes hg1 => ?_)
              · rcases hh with hh | hh
                · exact r2.new id hh hp
                · rw [r5 id (by omega)]; exact hp
              · rcases hW with ⟨k, _, _⟩ | k
                · exact hno (.inr (.inl k))
                · exact hno (.inr (.inr k))
              · rcases b3 id o' hg1 with ⟨k1, k2⟩ | ⟨k1, k2⟩
                · rcases a2 id o' k2 with ⟨q1, q2, q3⟩ | ⟨q1, q2⟩
                  · rw [mergeG_in (.inl ⟨q1, k1, q2⟩)]; exact q3
                  · rw [mergeG_out (fun hW => by
                      rcases hW with ⟨z1, _, z2⟩ | ⟨z, _⟩
                      · exact z2 (q1 z1)
                      · omega)]
                    refine hvis id o' (.inr (.inl ?_)) q2
                    rcases hyes with ⟨z, _⟩ | z | ⟨z, _⟩
                    · cases z
                    · exact z
                    · exact absurd k1 (by have : h.n ≤ id := z; omega)
                · rw [mergeG_in (.inr ⟨k1, (AHeap.get_some.1 k2).1⟩)]; exact k2
        · simp at e
      · simp at e
    · simp at e
  · simp at e

end
end Go.Ev

/- Regions that draw their order: a call there; one operation, of whatever kind. -/
namespace Go.Ev
open Go

section
variable {P : Program} {G : Env} {pl pl' : Pl} {M M' : Mem} {h h' h1 hv : AHeap} {w w' : World} {v : AV} {A F : Fr} {a : Act} {call : Caller} {ops : Array Oper} {o : Oper} {d : DOper} {r : Rec}

theorem fewerTo_ok {h h' : AHeap} : ∀ (k : Nat), fewerTo h h' k = true → ∀ id, id < k → h.get id = none → h'.get id = none
  | 0, _, id, hid, _ => by omega
  | k + 1, e, id, hid, hn => by
    unfold fewerTo at e
    have key : fewerTo h h' k = true ∧ (h.get k = none → h'.get k = none) := by
      cases h1 : h'.get k with
      | none => rw [h1] at e; exact ⟨e, fun _ => rfl⟩
      | some o' =>
        cases h2 : h.get k with
        | none => rw [h1, h2] at e; simp at e
        | some o => rw [h1, h2] at e; exact ⟨e, fun h => by cases h⟩
    rcases Nat.lt_or_ge id k with h1 | h1
    · exact fewerTo_ok k key.1 id h1 hn
    · have : id = k := by omega
      subst this; exact key.2 hn

/-- What a call has changed, out of the comparison. -/
theorem dCallEnd_some {x : Option (AV × AHeap)} (e : dCallEnd h x = some (v, h1, r)) : x = some (v, h1) ∧ h.n ≤ h1.n ∧ ∃ b, r = ⟨⟨true, [], h.n, h.n⟩, ⟨b, [], h.n, h1.n⟩⟩ ∧
    (b = false → ∀ id, id < h.n → h1.get id = h.get id) ∧ (∀ id, id < h.n → h.get id = none → h1.get id = none) := by
  unfold dCallEnd at e
  split at e
  · rename_i v2 h2
    rw [ble_iff] at e
    by_cases hle : h.n ≤ h2.n
    · simp only [hle, decide_true] at e
      split at e
      · rename_i hs
        simp [dCallRec] at e
        obtain ⟨rfl, rfl, rfl⟩ := e
        exact ⟨rfl, hle, false, rfl, fun _ => sameTo_ok h.n hs, fun id hid hn => by rw [sameTo_ok h.n hs id hid]; exact hn⟩
      · split at e
        · rename_i hf
          simp [dCallRec] at e
          obtain ⟨rfl, rfl, rfl⟩ := e
          exact ⟨rfl, hle, true, rfl, (fun hq => absurd hq (by simp)), fewerTo_ok h.n hf⟩
        · simp at e
    · simp [hle] at e
  · simp at e

theorem dCall_ok (hc : CallerOK P G call) (hd : d.r.op = opR P G o.op) (e : dCall call F h d = some (v, h1, r)) (hg : guardR ⟨F.n, lookFr F d.look .nil⟩ (guardDst ops o) = some true) :
    DSpec P G ops o d.look F h v h1 r := by
  unfold dCall at e
  split at e
  · rename_i hck
    simp only [Bool.and_eq_true] at hck
    obtain ⟨hck1, hck2⟩ := hck
    obtain ⟨e1, hle, b, rfl, hb, hfew⟩ := dCallEnd_some e
    rw [hd] at e1
    refine ⟨hle, fun id o' hno hg1 => ?_, fun id k1 k2 => .inr (.inr ⟨k1, k2⟩), ?_⟩
    · have hlt := (AHeap.get_some.1 hg1).1
      have hlow : id < h.n := by
        rcases Nat.lt_or_ge id h.n with k | k
        · exact k
        · exact absurd (.inr (.inr ⟨k, hlt⟩)) hno
      cases b with
      | true => exact absurd (.inl ⟨rfl, hlow⟩) hno
      | false => rw [← hb rfl id hlow]; exact hg1
    · intro nk n0 g pl M a w K Q hn0 hnk hbig hr hvis hU hG hs hdf hF hK
      have hf0 : FrRel pl M ⟨F.n, lookFr F d.look .nil⟩ a := lookFr_rel hs hdf hF
      rw [guardR_ok hf0 hg]
      simp only [if_true]
      left
      have hvg : ∀ id o, h.get id = some o → g id = some o := fun id o' hh => hvis id o' (.inl ⟨rfl, (AHeap.get_some.1 hh).1⟩) hh
      have ho : ∀ id o, h.get id = some o → o.top ≤ h.n := fun id o' hh => cleanTo_ok h.n hck2 id o' (AHeap.get_some.1 hh).1 hh
      have hf := cut_look (M := M) hs hdf hck1 hF
      let W : Nat → Prop := fun id => (b = true ∧ id < h.n ∧ h.get id ≠ none) ∨ (h.n ≤ id ∧ id < h1.n)
      have W1 : ∀ id, id < h.n → ¬ W id → h.get id ≠ none → h1.get id = h.get id := by
        intro id k1 k2 k3
        cases b with
        | true => exact absurd (.inl ⟨rfl, k1, k3⟩) k2
        | false => exact hb rfl id k1
      have W2 : ∀ id, W id → id < h.n → h.get id ≠ none := by
        intro id k1 k2
        rcases k1 with ⟨_, _, k⟩ | ⟨k, _⟩
        · exact k
        · omega
      have W3 : ∀ id, W id → id < h1.n := by
        intro id k1
        rcases k1 with ⟨_, k, _⟩ | ⟨_, k⟩ <;> omega
      have W4 : ∀ id, h.n ≤ id → id < h1.n → W id := fun id k1 k2 => .inr ⟨k1, k2⟩
      have hKK : ∀ cv w' pl' M', RepF pl' M' nk (mergeG W g h1.get) w' → StepF h.n g pl M w (mergeG W g h1.get) pl' M' w' → VRel pl' M' v cv → Ext pl pl' → (∀ id, h1.n ≤ id → pl' id = pl id) → K (a.put o.dst cv) w' := by
        intro cv w' pl' M' r1 r2 r3 r4 r5
        refine hK cv w' pl' M' _ r1 (r2.weaken hn0) r3 r4 (fun id hp hh => ?_) (fun id hno => mergeG_out fun hW => ?_) (fun id o' hyes hg1 => ?_)
        · rcases hh with hh | hh
          · exact r2.new id hh hp
          · rw [r5 id hh]; exact hp
        · rcases hW with ⟨k1, k2, _⟩ | k
          · exact hno (.inl ⟨k1, k2⟩)
          · exact hno (.inr (.inr k))
        · have hlt := (AHeap.get_some.1 hg1).1
          have hW : W id := by
            rcases hyes with ⟨k1, k2⟩ | k | k
            · refine .inl ⟨k1, k2, fun hn => ?_⟩
              rw [hfew id k2 hn] at hg1; cases hg1
            · simp at k
            · exact .inr k
          rw [mergeG_in hW]; exact hg1
      cases hrun : (opR P G o.op).run ⟨F.n, lookFr F d.look .nil⟩ h with
      | none => rw [hrun] at e1; simp [behind] at e1
      | some res =>
        rw [hrun] at e1
        cases res with
        | val v2 h2 =>
          simp [behind] at e1
          obtain ⟨rfl, rfl⟩ := e1
          exact shown_val hr (Nat.le_refl _) hvg ho hf hG hrun (.inr hnk) (fun id k1 k2 => hU id k1 k2) W1 W2 W3 W4 hKK
        | call f args =>
          simp only [behind] at e1
          exact shown_call hc hr (Nat.le_refl _) hvg ho hf hG hrun e1 (.inr hnk) (fun id k1 k2 => hU id k1 k2) W1 W2 W3 W4 hKK
  · simp at e

end
end Go.Ev

/- Regions that draw their order: one operation, of whatever kind. -/
namespace Go.Ev
open Go

section
variable {P : Program} {G : Env} {h h1 : AHeap} {v : AV} {F : Fr} {call : Caller} {ops : Array Oper} {o : Oper} {d : DOper} {r : Rec}

theorem dOne_ok (hc : CallerOK P G call) (hd : d.r = oneOper P G ops o) (hk : d.kind = kindOf o.op) (e : dOne call F h d = some (v, h1, r)) : DSpec P G ops o d.look F h v h1 r := by
  have hop : d.r.op = opR P G o.op := by rw [hd]; rfl
  have hgd : d.r.g = guardDst ops o := by rw [hd]; rfl
  unfold dOne at e
  rw [hgd] at e
  split at e
  · rename_i hg
    split at e
    · rename_i hk0
      exact dRead_ok hop (by rw [← hk]; exact hk0) e hg
    · exact dWrite_ok hop e hg
    · exact dCall_ok hc hop e hg
  · rename_i hg
    simp at e
    obtain ⟨rfl, rfl, rfl⟩ := e
    refine ⟨Nat.le_refl _, fun _ _ _ h => h, fun id h1 h2 => by omega, ?_⟩
    intro nk n0 g pl M a w K Q hn0 hnk hbig hr hvis hU hG hs hdf hF hK
    have hf0 : FrRel pl M ⟨F.n, lookFr F d.look .nil⟩ a := lookFr_rel hs hdf hF
    rw [guardR_ok hf0 hg]
    simp only [Bool.false_eq_true, if_false]
    exact hK undef w pl M g hr (StepF.refl _ _ _ _ _) undef_rel (Ext.refl _) (fun id h _ => h) (fun _ _ => rfl) (fun id o' hh => absurd hh (noneHolds (ids := [])))
  · simp at e

end
end Go.Ev

/- Regions that draw their order: the masks; the data of a run. -/
namespace Go.Ev
open Go

section
variable {P : Program} {G : Env} {call : Caller} {ops : Array Oper}

theorem depsOf_mem : ∀ {l : List Edge} {x : Nat}, x ∈ depsOf l ↔ ∃ e, e ∈ l ∧ Region.binds .any e = true ∧ e.on = x
  | [], x => by simp [depsOf]
  | e :: r, x => by
    simp only [depsOf]
    cases hb : Region.binds .any e with
    | true =>
      simp only [List.mem_cons, depsOf_mem (l := r)]
      constructor
      · rintro (h | ⟨e', h1, h2, h3⟩)
        · exact ⟨e, .inl rfl, hb, h.symm⟩
        · exact ⟨e', .inr h1, h2, h3⟩
      · rintro ⟨e', rfl | h1, h2, h3⟩
        · exact .inl h3.symm
        · exact .inr ⟨e', h1, h2, h3⟩
    | false =>
      simp only [List.mem_cons, depsOf_mem (l := r)]
      constructor
      · rintro ⟨e', h1, h2, h3⟩; exact ⟨e', .inr h1, h2, h3⟩
      · rintro ⟨e', rfl | h1, h2, h3⟩
        · rw [hb] at h2; cases h2
        · exact ⟨e', h1, h2, h3⟩

theorem maskOf_bit {masks : List (Nat × Nat)} {x : Nat} : ∀ {l : List Nat}, Nat.testBit (maskOf masks l) x = true → ∃ d, d ∈ l ∧ (x = d ∨ Nat.testBit (maskAt masks d) x = true)
  | [], h => by simp [maskOf] at h
  | d :: r, h => by
    simp only [maskOf] at h
    have h : Nat.testBit ((2 ^ d ||| maskAt masks d) ||| maskOf masks r) x = true := h
    rw [Nat.testBit_or, Nat.testBit_or, Bool.or_eq_true, Bool.or_eq_true, Nat.testBit_two_pow] at h
    rcases h with (h | h) | h
    · exact ⟨d, by simp, .inl (by simpa [eq_comm] using h)⟩
    · exact ⟨d, by simp, .inr h⟩
    · obtain ⟨d', h1, h2⟩ := maskOf_bit h
      exact ⟨d', by simp [h1], h2⟩

theorem belowAll_ok {i : Nat} : ∀ {l : List Nat}, belowAll i l = true → ∀ d, d ∈ l → d < i
  | [], _, d, h => by simp at h
  | x :: r, e, d, h => by
    simp only [belowAll, Bool.and_eq_true, blt_iff, decide_eq_true_eq] at e
    rcases List.mem_cons.1 h with rfl | h
    · exact e.1
    · exact belowAll_ok e.2 d h

theorem masksGo_low : ∀ (l : List Oper) (i : Nat) (acc : List (Nat × Nat)) (j : Nat), j < i → maskAt (masksGo l i acc) j = maskAt acc j
  | [], i, acc, j, h => rfl
  | o :: r, i, acc, j, h => by
    simp only [masksGo]
    rw [masksGo_low r (i + 1) _ j (by omega)]
    have : Nat.beq i j = false := by rw [beq_iff]; simp; omega
    simp [maskAt, this]

theorem masksGo_bit : ∀ (l : List Oper) (i : Nat) (acc : List (Nat × Nat)) (t : Nat) (o : Oper), l[t]? = some o → belowAll (i + t) (depsOf o.after.toList) = true → ∀ x, Nat.testBit (maskAt (masksGo l i acc) (i + t)) x = true →
    ∃ d, d ∈ depsOf o.after.toList ∧ (x = d ∨ Nat.testBit (maskAt (masksGo l i acc) d) x = true)
  | [], i, acc, t, o, h, _, _, _ => by simp at h
  | o' :: r, i, acc, 0, o, h, hb, x, hx => by
    simp at h
    subst h
    have e : maskAt (masksGo (o' :: r) i acc) i = maskOf acc (depsOf o'.after.toList) := by
      simp only [masksGo]
      rw [masksGo_low r (i + 1) _ i (by omega)]
      have : Nat.beq i i = true := by rw [beq_iff]; simp
      simp [maskAt, this]
    rw [Nat.add_zero, e] at hx
    obtain ⟨d, h1, h2⟩ := maskOf_bit hx
    refine ⟨d, h1, ?_⟩
    have hlt := belowAll_ok hb d h1
    rw [masksGo_low (o' :: r) i acc d (by omega)]
    exact h2
  | o' :: r, i, acc, t + 1, o, h, hb, x, hx => by
    simp only [masksGo] at hx ⊢
    exact masksGo_bit r (i + 1) _ t o (by simpa using h) (by rw [show i + 1 + t = i + (t + 1) by omega]; exact hb) x (by rw [show i + 1 + t = i + (t + 1) by omega]; exact hx)

/-- Closed under what comes before. -/
def Down (masks : List (Nat × Nat)) (L : Nat → Prop) : Prop := ∀ i, L i → ∀ x, Nat.testBit (maskAt masks i) x = true → L x

/-- All that comes before a ready one is listed. -/
theorem ready_mask {L : Nat → Prop} (hD : Down (masksGo ops.toList 0 []) L) {j : Nat} {o : Oper} (ho : ops[j]? = some o) (hb : belowAll j (depsOf o.after.toList) = true) (hr : ∀ d, d ∈ depsOf o.after.toList → L d) :
    ∀ x, Nat.testBit (maskAt (masksGo ops.toList 0 []) j) x = true → L x := by
  intro x hx
  have := masksGo_bit ops.toList 0 [] j o (by simpa using ho) (by rw [Nat.zero_add]; exact hb) x (by rw [Nat.zero_add]; exact hx)
  obtain ⟨d, h1, h2⟩ := this
  rcases h2 with rfl | h2
  · exact hr _ h1
  · exact hD d (hr d h1) x h2

end
end Go.Ev

/- Regions that draw their order: the data of a run in the order of the text. -/
namespace Go.Ev
open Go

/-- Do two clash? -/
def Clash (q r : Rec) : Prop := ∃ id, (q.wr.Holds id ∧ r.vis.Holds id) ∨ (r.wr.Holds id ∧ q.vis.Holds id) ∨ (q.wr.Holds id ∧ r.wr.Holds id)

/-- The run's data: heaps, frames, values, records. -/
structure RunData (call : Caller) (ds : List DOper) (k : Nat) (hs : Nat → AHeap) (Fs : Nat → Fr) (vs : Nat → AV) (rc : Nat → Rec) : Prop where
  one : ∀ j d, ds[j]? = some d → dOne call (Fs (k + j)) (hs (k + j)) d = some (vs (k + j), hs (k + j + 1), rc (k + j))
  put : ∀ j d, ds[j]? = some d → putA (Fs (k + j)) d.r.dst (vs (k + j)) = some (Fs (k + j + 1))
  ord : ∀ j d, ds[j]? = some d → ∀ i, i < k + j → Clash (rc i) (rc (k + j)) → Nat.testBit d.mask i = true

section
variable {call : Caller}

theorem noClash_ok {mask : Nat} {r : Rec} : ∀ {qs : List Rec}, noClash mask r qs qs.length = true → ∀ i q, qs[i]? = some q → Clash q r → Nat.testBit mask (qs.length - 1 - i) = true
  | [], _, i, q, h, _ => by simp at h
  | p :: ps, e, i, q, h, hc => by
    simp only [noClash, List.length_cons, Nat.add_sub_cancel, Bool.and_eq_true, Bool.or_eq_true, Bool.not_eq_true'] at e
    match i, h with
    | 0, h =>
      simp at h
      subst h
      rcases e.1 with e1 | e1
      · exfalso
        simp only [Bool.or_eq_false_iff] at e1
        obtain ⟨⟨e2, e3⟩, e4⟩ := e1
        obtain ⟨id, hc | hc | hc⟩ := hc
        · rw [Ids.meets_of hc.1 hc.2] at e2; cases e2
        · rw [Ids.meets_of hc.1 hc.2] at e3; cases e3
        · rw [Ids.meets_of hc.1 hc.2] at e4; cases e4
      · simpa using e1
    | i + 1, h =>
      have := noClash_ok e.2 i q (by simpa using h) hc
      simp only [List.length_cons]
      rw [show ps.length + 1 - 1 - (i + 1) = ps.length - 1 - i by omega]
      exact this

/-- The records so far, the last first. -/
def recsTo (rc : Nat → Rec) : Nat → List Rec
  | 0 => []
  | k + 1 => rc k :: recsTo rc k

theorem recsTo_len (rc : Nat → Rec) : ∀ k, (recsTo rc k).length = k
  | 0 => rfl
  | k + 1 => by simp [recsTo, recsTo_len rc k]

theorem recsTo_get (rc : Nat → Rec) : ∀ (k i : Nat), i < k → (recsTo rc k)[k - 1 - i]? = some (rc i)
  | 0, i, h => by omega
  | k + 1, i, h => by
    simp only [recsTo]
    rcases Nat.lt_or_ge i k with h1 | h1
    · rw [show k + 1 - 1 - i = (k - 1 - i) + 1 by omega]
      simpa using recsTo_get rc k i h1
    · have : i = k := by omega
      subst this
      simp

theorem recsTo_congr {rc rc' : Nat → Rec} : ∀ {k : Nat}, (∀ i, i < k → rc i = rc' i) → recsTo rc k = recsTo rc' k
  | 0, _ => rfl
  | k + 1, h => by simp only [recsTo]; rw [h k (by omega), recsTo_congr (fun i hi => h i (by omega))]

theorem drawGo_data : ∀ (ds : List DOper) (k : Nat) (hs0 : Nat → AHeap) (Fs0 : Nat → Fr) (vs0 : Nat → AV) (rc0 : Nat → Rec) (s' : St), (drawGo ds).run call (Fs0 k) (hs0 k) (recsTo rc0 k) k = some s' →
    ∃ hs Fs vs rc, (∀ i, i ≤ k → hs i = hs0 i ∧ Fs i = Fs0 i) ∧ (∀ i, i < k → vs i = vs0 i ∧ rc i = rc0 i) ∧ RunData call ds k hs Fs vs rc ∧ s' = ⟨Fs (k + ds.length), hs (k + ds.length)⟩
  | [], k, hs0, Fs0, vs0, rc0, s', e => by
    simp [drawGo] at e
    refine ⟨hs0, Fs0, vs0, rc0, fun _ _ => ⟨rfl, rfl⟩, fun _ _ => ⟨rfl, rfl⟩, ⟨fun j d h => by simp at h, fun j d h => by simp at h, fun j d h => by simp at h⟩, by simpa using e.symm⟩
  | d :: r, k, hs0, Fs0, vs0, rc0, s', e => by
    simp only [drawGo] at e
    cases ho : dOne call (Fs0 k) (hs0 k) d with
    | none => rw [ho] at e; simp [dNext] at e
    | some res =>
      obtain ⟨v, h', rec⟩ := res
      rw [ho] at e
      simp only [dNext] at e
      split at e
      · rename_i hcl
        cases hp : putA (Fs0 k) d.r.dst v with
        | none => rw [hp] at e; simp at e
        | some F' =>
          rw [hp] at e
          simp only [] at e
          let hs1 : Nat → AHeap := fun i => if i = k + 1 then h' else hs0 i
          let Fs1 : Nat → Fr := fun i => if i = k + 1 then F' else Fs0 i
          let vs1 : Nat → AV := fun i => if i = k then v else vs0 i
          let rc1 : Nat → Rec := fun i => if i = k then rec else rc0 i
          have er : rec :: recsTo rc0 k = recsTo rc1 (k + 1) := by
            simp only [recsTo]
            congr 1
            · simp [rc1]
            · exact recsTo_congr fun i hi => by simp [rc1, show i ≠ k by omega]
          have e2 : (drawGo r).run call (Fs1 (k + 1)) (hs1 (k + 1)) (recsTo rc1 (k + 1)) (k + 1) = some s' := by
            rw [← er]; simpa [Fs1, hs1] using e
          obtain ⟨hs, Fs, vs, rc, a1, a2, a3, a4⟩ := drawGo_data r (k + 1) hs1 Fs1 vs1 rc1 s' e2
          have hk := a1 k (by omega)
          have hk1 := a1 (k + 1) (by omega)
          have hvk := a2 k (by omega)
          simp only [hs1, Fs1, show ¬ k = k + 1 by omega, if_false, if_true] at hk hk1
          simp only [vs1, rc1, if_true] at hvk
          refine ⟨hs, Fs, vs, rc, fun i hi => ?_, fun i hi => ?_, ⟨fun j d' hj => ?_, fun j d' hj => ?_, fun j d' hj i hi hc => ?_⟩, ?_⟩
          · have := a1 i (by omega)
            simpa [hs1, Fs1, show i ≠ k + 1 by omega] using this
          · have := a2 i (by omega)
            simpa [vs1, rc1, show i ≠ k by omega] using this
          · match j, hj with
            | 0, hj =>
              simp at hj; subst hj
              simp only [Nat.add_zero]
              rw [hk.1, hk.2, hk1.1, hvk.1, hvk.2]; exact ho
            | j + 1, hj =>
              have := a3.one j d' (by simpa using hj)
              rw [show k + (j + 1) = k + 1 + j by omega]; exact this
          · match j, hj with
            | 0, hj =>
              simp at hj; subst hj
              simp only [Nat.add_zero]
              rw [hk.2, hk1.2, hvk.1]; exact hp
            | j + 1, hj =>
              have := a3.put j d' (by simpa using hj)
              rw [show k + (j + 1) = k + 1 + j by omega]; exact this
          · match j, hj with
            | 0, hj =>
              simp at hj; subst hj
              simp only [Nat.add_zero] at hi hc
              have hri := (a2 i (by omega)).2
              simp only [rc1, show ¬ i = k by omega, if_false] at hri
              rw [hri, hvk.2] at hc
              have hcl' : noClash d.mask rec (recsTo rc0 k) (recsTo rc0 k).length = true := by rw [recsTo_len]; exact hcl
              have := noClash_ok hcl' (k - 1 - i) (rc0 i) (recsTo_get rc0 k i hi) hc
              rw [recsTo_len, show k - 1 - (k - 1 - i) = i by omega] at this
              exact this
            | j + 1, hj =>
              rw [show k + (j + 1) = k + 1 + j by omega] at hi hc
              exact a3.ord j d' (by simpa using hj) i hi hc
          · rw [a4]; simp only [List.length_cons]; rw [show k + 1 + r.length = k + (r.length + 1) by omega]
      · simp at e

end
end Go.Ev

/- Regions that draw their order: what holds wherever a run of it has come to. -/
namespace Go.Ev
open Go

/-- A region, made ready, and the data of its run in the order of the text. -/
structure Reg (P : Program) (G : Env) (call : Caller) (ops : Array Oper) (N : Nat) (hs : Nat → AHeap) (Fs : Nat → Fr) (vs : Nat → AV) (rc : Nat → Rec) : Prop where
  small : N ≤ 60000
  n0 : (Fs 0).n = N
  t0 : ∀ t u, (Fs 0).get t = some u → t < N
  big : (hs ops.size).n ≤ 1000000
  spec : ∀ j o, ops[j]? = some o → DSpec P G ops o (o.looksAt ops) (Fs j) (hs j) (vs j) (hs (j + 1)) (rc j)
  put : ∀ j o, ops[j]? = some o → putA (Fs j) o.dst (vs j) = some (Fs (j + 1))
  ord : ∀ j o, ops[j]? = some o → ∀ i, i < j → Clash (rc i) (rc j) → Nat.testBit (maskAt (masksGo ops.toList 0 []) j) i = true
  below : ∀ j o, ops[j]? = some o → belowAll j (depsOf o.after.toList) = true
  looks : ∀ j o, ops[j]? = some o → looksOk (masksGo ops.toList 0 []) (depsOf o.after.toList) (o.looksAt ops) j ops.toList 0 = true
  dsts : ∀ (i j : Nat) (oi oj : Oper) (t : Tmp), ops[i]? = some oi → ops[j]? = some oj → oi.dst = some t → oj.dst = some t → i = j

/-- Where a run has come to: 'L': what is listed. -/
structure Inv (P : Program) (G : Env) (ops : Array Oper) (N : Nat) (hs : Nat → AHeap) (Fs : Nat → Fr) (vs : Nat → AV) (rc : Nat → Rec) (h0 : AHeap) (pl0 : Pl) (M0 : Mem) (w0 : World) (L : Nat → Prop) (a : Act) (w : World) : Prop where
  down : Down (masksGo ops.toList 0 []) L
  ex : ∃ pl M g, RepF pl M (hs ops.size).n g w ∧ StepF h0.n h0.get pl0 M0 w0 g pl M w ∧
    (∀ id m o, m ≤ ops.size → (∀ i, i < m → (rc i).wr.Holds id → L i) → (∀ i, m ≤ i → i < ops.size → (rc i).wr.Holds id → ¬ L i) → (hs m).get id = some o → g id = some o) ∧
    (∀ j, j < ops.size → ¬ L j → ∀ id, (hs j).n ≤ id → id < (hs (j + 1)).n → pl id = none) ∧
    (∀ j o t, ops[j]? = some o → L j → o.dst = some t → VRel pl M (vs j) (a.tmps.getD t undef)) ∧
    (∀ t u, (∀ i o, ops[i]? = some o → L i → o.dst ≠ some t) → (Fs 0).get t = some u → VRel pl M u (a.tmps.getD t undef))
  size : a.tmps.size = N
  defers : a.defers = []

section
variable {P : Program} {G : Env} {call : Caller} {ops : Array Oper} {N : Nat} {hs : Nat → AHeap} {Fs : Nat → Fr} {vs : Nat → AV} {rc : Nat → Rec} {h0 : AHeap} {pl0 : Pl} {M0 : Mem} {w0 : World} {L : Nat → Prop} {a : Act} {w : World}

theorem Reg.get {j : Nat} (hj : j < ops.size) : ∃ o, ops[j]? = some o := ⟨ops[j], by simp [hj]⟩

theorem Reg.mono (R : Reg P G call ops N hs Fs vs rc) {i : Nat} : ∀ {j : Nat}, i ≤ j → j ≤ ops.size → (hs i).n ≤ (hs j).n
  | 0, h, _ => by have : i = 0 := by omega
                  subst this; exact Nat.le_refl _
  | j + 1, h, hj => by
    rcases Nat.lt_or_ge i (j + 1) with h1 | h1
    · obtain ⟨o, ho⟩ := Reg.get (ops := ops) (j := j) (by omega)
      exact Nat.le_trans (R.mono (by omega) (by omega)) (R.spec j o ho).le
    · have : i = j + 1 := by omega
      subst this; exact Nat.le_refl _

theorem putA_n {A A' : Fr} {dst : Option Tmp} {v : AV} (e : putA A dst v = some A') : A'.n = A.n := by
  cases dst with
  | none => simp [putA] at e; rw [e]
  | some d =>
    simp only [putA, Fr.put] at e
    split at e
    · simp at e; rw [← e]
    · simp at e

theorem Reg.frame (R : Reg P G call ops N hs Fs vs rc) : ∀ (j : Nat), j ≤ ops.size → (Fs j).n = N ∧ ∀ t u, (Fs j).get t = some u → t < N ∧
    ((∃ i o, i < j ∧ ops[i]? = some o ∧ o.dst = some t ∧ u = vs i) ∨ ((∀ i o, i < j → ops[i]? = some o → o.dst ≠ some t) ∧ (Fs 0).get t = some u))
  | 0, _ => ⟨R.n0, fun t u h => ⟨R.t0 t u h, .inr ⟨fun i o h => by omega, h⟩⟩⟩
  | j + 1, hj => by
    obtain ⟨o, ho⟩ := Reg.get (ops := ops) (j := j) (by omega)
    obtain ⟨k1, k2⟩ := R.frame j (by omega)
    have hp := R.put j o ho
    refine ⟨by rw [putA_n hp]; exact k1, fun t u ht => ?_⟩
    have old : (Fs j).get t = some u → o.dst ≠ some t → t < N ∧ ((∃ i o, i < j + 1 ∧ ops[i]? = some o ∧ o.dst = some t ∧ u = vs i) ∨ ((∀ i o, i < j + 1 → ops[i]? = some o → o.dst ≠ some t) ∧ (Fs 0).get t = some u)) := by
      intro h1 h2
      obtain ⟨q1, q2⟩ := k2 t u h1
      refine ⟨q1, ?_⟩
      rcases q2 with ⟨i, o', z1, z2⟩ | ⟨z1, z2⟩
      · exact .inl ⟨i, o', by omega, z2⟩
      · refine .inr ⟨fun i o' hi ho' => ?_, z2⟩
        rcases Nat.lt_or_ge i j with hlt | hge
        · exact z1 i o' hlt ho'
        · have : i = j := by omega
          subst this
          rw [ho] at ho'
          cases ho'
          exact h2
    cases hd : o.dst with
    | none =>
      rw [hd] at hp
      simp [putA] at hp
      rw [← hp] at ht
      exact old ht (by rw [hd]; simp)
    | some d =>
      rw [hd] at hp
      simp only [putA] at hp
      obtain ⟨_, q2, q3⟩ := Fr.get_put (by rw [k1]; exact R.small) hp ht
      rcases q3 with ⟨rfl, rfl⟩ | ⟨q4, q5⟩
      · exact ⟨by rw [← k1]; exact q2, .inl ⟨j, o, by omega, ho, hd, rfl⟩⟩
      · exact old q5 (by rw [hd]; intro h; exact q4 (Option.some.inj h).symm)

end
end Go.Ev

/- Regions that draw their order: one more operation, whichever comes. -/
namespace Go.Ev
open Go

section
variable {P : Program} {G : Env} {call : Caller} {ops : Array Oper} {N : Nat} {hs : Nat → AHeap} {Fs : Nat → Fr} {vs : Nat → AV} {rc : Nat → Rec} {h0 : AHeap} {pl0 : Pl} {M0 : Mem} {w0 : World} {L : Nat → Prop} {a : Act} {w : World}

/-- What comes before 'i' lies before it in the text too. -/
theorem Reg.maskLow (R : Reg P G call ops N hs Fs vs rc) : ∀ (n i : Nat), i < n → ∀ o, ops[i]? = some o → ∀ x, Nat.testBit (maskAt (masksGo ops.toList 0 []) i) x = true → x < i
  | 0, i, h, _, _, _, _ => by omega
  | n + 1, i, h, o, ho, x, hx => by
    have hb := R.below i o ho
    have := masksGo_bit ops.toList 0 [] i o (by simpa using ho) (by rw [Nat.zero_add]; exact hb) x (by rw [Nat.zero_add]; exact hx)
    obtain ⟨d, h1, h2⟩ := this
    have hd := belowAll_ok hb d h1
    rcases h2 with rfl | h2
    · exact hd
    · have hlt := (Array.getElem?_eq_some_iff.1 ho).1
      obtain ⟨o', ho'⟩ := Reg.get (ops := ops) (j := d) (by omega)
      have := R.maskLow n d (by omega) o' ho' x h2
      omega

theorem looksOk_at {masks : List (Nat × Nat)} {deps : List Nat} {look : List Tmp} {j : Nat} : ∀ {l : List Oper} {i : Nat}, looksOk masks deps look j l i = true → ∀ (k : Nat) (o : Oper) (t : Tmp), l[k]? = some o → o.dst = some t → t ∈ look →
    i + k = j ∨ i + k ∈ deps ∨ Nat.testBit (maskAt masks (i + k)) j = true
  | [], _, _, k, o, t, h, _, _ => by simp at h
  | o' :: r, i, e, k, o, t, h, hd, ht => by
    simp only [looksOk, Bool.and_eq_true] at e
    match k, h with
    | 0, h =>
      simp at h
      subst h
      have e1 := e.1
      rw [hd] at e1
      simp only [Bool.or_eq_true, Bool.not_eq_true', hasId_iff, beq_iff, decide_eq_true_eq] at e1
      rcases e1 with ((e1 | e1) | e1) | e1
      · have : hasId t look = true := hasId_iff.2 ht
        rw [this] at e1; cases e1
      · exact .inl e1
      · exact .inr (.inl e1)
      · exact .inr (.inr e1)
    | k + 1, h =>
      have := looksOk_at e.2 k o t (by simpa using h) hd ht
      rw [show i + (k + 1) = i + 1 + k by omega]
      exact this

/-- Back over operations that do not change an object. -/
theorem Reg.back (R : Reg P G call ops N hs Fs vs rc) {id : Nat} {o : AObj} {j : Nat} : ∀ (m : Nat), j ≤ m → m ≤ ops.size → (∀ i, j ≤ i → i < m → ¬ (rc i).wr.Holds id) → (hs m).get id = some o → (hs j).get id = some o
  | 0, h, _, _, e => by have : j = 0 := by omega
                        subst this; exact e
  | m + 1, h, hm, hn, e => by
    rcases Nat.lt_or_ge j (m + 1) with h1 | h1
    · obtain ⟨o', ho'⟩ := Reg.get (ops := ops) (j := m) (by omega)
      exact R.back m (by omega) (by omega) (fun i h2 h3 => hn i h2 (by omega)) ((R.spec m o' ho').keep id o (hn m (by omega) (by omega)) e)
    · have : j = m + 1 := by omega
      subst this; exact e

theorem put_getD {t d : Nat} {x : Value} {dst : Option Tmp} (h : dst ≠ some t) : (a.put dst x).tmps.getD t undef = a.tmps.getD t undef := by
  cases dst with
  | none => rfl
  | some d => 
    have : d ≠ t := fun e => h (by rw [e])
    simp [Act.put, Array.getD_eq_getD_getElem?, Array.getElem?_setIfInBounds, this]

theorem put_getD_self {t : Nat} {x : Value} (h : t < a.tmps.size) : (a.put (some t) x).tmps.getD t undef = x := by
  simp [Act.put, Array.getD_eq_getD_getElem?, h]

theorem put_size {dst : Option Tmp} {x : Value} : (a.put dst x).tmps.size = a.tmps.size := by
  cases dst <;> simp [Act.put]

theorem put_defers {dst : Option Tmp} {x : Value} : (a.put dst x).defers = a.defers := by
  cases dst <;> simp [Act.put]

/-- One more. -/
theorem Inv.step (R : Reg P G call ops N hs Fs vs rc) (hG : GOk G pl0 M0) (hdom : ∀ id p, pl0 id = some p → id < h0.n) (hh0 : h0.n ≤ (hs 0).n)
    (I : Inv P G ops N hs Fs vs rc h0 pl0 M0 w0 L a w) {j : Nat} {o : Oper} (ho : ops[j]? = some o) (hnL : ¬ L j) (hrd : ∀ d, d ∈ depsOf o.after.toList → L d)
    {K : Act → World → Prop} {Q : Exit → Act → World → Prop} (hK : ∀ a' w', Inv P G ops N hs Fs vs rc h0 pl0 M0 w0 (fun i => i = j ∨ L i) a' w' → K a' w') : wpOp P ops Q j K a w := by
  obtain ⟨hdown, ⟨pl, M, g, hr, hst, hV, hU, hF1, hF2⟩, hsz, hdf⟩ := I
  have hj : j < ops.size := (Array.getElem?_eq_some_iff.1 ho).1
  have hmask := ready_mask hdown ho (R.below j o ho) hrd
  have hn0 : h0.n ≤ (hs j).n := Nat.le_trans hh0 (R.mono (Nat.zero_le _) (by omega))
  obtain ⟨hfn, hfr⟩ := R.frame j (by omega)
  -- a later one that must come behind 'j' is not listed
  have later : ∀ i o', ops[i]? = some o' → Nat.testBit (maskAt (masksGo ops.toList 0 []) i) j = true → ¬ L i := fun i o' _ hb hL => hnL (hdown i hL j hb)
  unfold wpOp
  rw [ho]
  simp only []
  refine (R.spec j o ho).exec (hs ops.size).n h0.n g pl M a w K Q hn0 (R.mono (by omega) (Nat.le_refl _)) R.big hr ?_ ?_ ?_ ?_ hdf ?_ ?_
  · intro id o' hv hg
    refine hV id j o' (by omega) (fun i hi hw => ?_) (fun i hi hi2 hw => ?_) hg
    · exact hmask i (R.ord j o ho i hi ⟨id, .inl ⟨hw, hv⟩⟩)
    · rcases Nat.lt_or_ge j i with h1 | h1
      · obtain ⟨oi, hoi⟩ := Reg.get (ops := ops) hi2
        exact later i oi hoi (R.ord i oi hoi j h1 ⟨id, .inr (.inl ⟨hw, hv⟩)⟩)
      · have : i = j := by omega
        subst this; exact hnL
  · exact fun id h1 h2 => hU j hj hnL id h1 h2
  · refine hG.mono (fun id p hp => ?_) hst.mem
    obtain ⟨p', k1, k2⟩ := hst.ext id p hp
    exact ⟨p', cutPl_some.2 ⟨by have := hdom id p hp; omega, k1⟩, k2⟩
  · rw [hsz, hfn]
  · intro t u ht hu
    obtain ⟨k1, k2⟩ := hfr t u hu
    refine ⟨by rw [hfn]; exact k1, ?_⟩
    rcases k2 with ⟨i, oi, q1, q2, q3, q4⟩ | ⟨q1, q2⟩
    · subst q4
      rcases looksOk_at (R.looks j o ho) i oi t (by simpa using q2) q3 ht with z | z | z
      · omega
      · exact hF1 i oi t q2 (hrd i (by simpa using z)) q3
      · have := R.maskLow (i + 1) i (by omega) oi q2 j (by simpa using z)
        omega
    · refine hF2 t u (fun i oi hoi hLi hd => ?_) q2
      rcases Nat.lt_or_ge i j with h1 | h1
      · exact q1 i oi h1 hoi hd
      · rcases looksOk_at (R.looks j o ho) i oi t (by simpa using hoi) hd ht with z | z | z
        · have : i = j := by omega
          subst this; exact hnL hLi
        · have := belowAll_ok (R.below j o ho) _ z
          omega
        · exact later i oi hoi (by simpa using z) hLi
  · intro cv w' pl' M' g' r1 r2 r3 r4 r5 r6 r7
    refine hK _ _ ⟨fun i hi x hx => ?_, ⟨pl', M', g', r1, hst.trans r2 (Nat.le_refl _), ?_, ?_, ?_, ?_⟩, by rw [put_size]; exact hsz, by rw [put_defers]; exact hdf⟩
    · rcases hi with rfl | hi
      · exact .inr (hmask x hx)
      · exact .inr (hdown i hi x hx)
    · intro id m o' hm ha hb hg
      by_cases hw : (rc j).wr.Holds id
      · have hjm : j < m := by
          rcases Nat.lt_or_ge j m with h1 | h1
          · exact h1
          · exact absurd (.inl rfl) (hb j h1 hj hw)
        refine r7 id o' hw (R.back m (by omega) hm (fun i h1 h2 hwi => ?_) hg)
        obtain ⟨oi, hoi⟩ := Reg.get (ops := ops) (j := i) (by omega)
        rcases ha i h2 hwi with rfl | hLi
        · omega
        · exact later i oi hoi (R.ord i oi hoi j (by omega) ⟨id, .inr (.inr ⟨hw, hwi⟩)⟩) hLi
      · rw [r6 id hw]
        refine hV id m o' hm (fun i hi hwi => ?_) (fun i hi hi2 hwi hLi => hb i hi hi2 hwi (.inr hLi)) hg
        rcases ha i hi hwi with rfl | hLi
        · exact absurd hwi hw
        · exact hLi
    · intro k hk hnk id h1 h2
      have hkj : k ≠ j := fun e => hnk (.inl e)
      refine r5 id (hU k hk (fun h => hnk (.inr h)) id h1 h2) ?_
      rcases Nat.lt_or_ge k j with h3 | h3
      · have := R.mono (i := k + 1) (j := j) (by omega) (by omega)
        exact .inl (by omega)
      · have := R.mono (i := j + 1) (j := k) (by omega) (by omega)
        exact .inr (by omega)
    · intro k ok t hok hLk hd
      by_cases e : k = j
      · subst e
        rw [ho] at hok
        cases hok
        rw [hd]
        have hlt : t < a.tmps.size := by
          have hp := R.put k o ho
          rw [hd] at hp
          simp only [putA, Fr.put] at hp
          split at hp
          · rename_i hb
            rw [blt_iff] at hb
            simp only [decide_eq_true_eq] at hb
            rw [hsz, ← hfn]; exact hb
          · simp at hp
        rw [put_getD_self hlt]
        exact r3
      · have hLk : L k := hLk.resolve_left e
        rw [put_getD (d := 0) fun h => e (R.dsts k j ok o t hok ho hd h)]
        exact (hF1 k ok t hok hLk hd).mono r4 r2.mem
    · intro t u hno hu
      rw [put_getD (d := 0) (hno j o ho (.inl rfl))]
      exact (hF2 t u (fun i oi hoi hLi => hno i oi hoi (.inr hLi)) hu).mono r4 r2.mem

end
end Go.Ev

/- Regions that draw their order: the machine's answer is the model's, whatever order is drawn. -/
namespace Go.Ev
open Go

section
variable {P : Program} {G : Env} {call : Caller} {ops : Array Oper} {N : Nat} {hs : Nat → AHeap} {Fs : Nat → Fr} {vs : Nat → AV} {rc : Nat → Rec} {h0 : AHeap} {pl0 : Pl} {M0 : Mem} {w0 : World} {L : Nat → Prop} {a : Act} {w : World}

/-- Where nothing is ready, all is listed. -/
theorem Reg.all_listed (R : Reg P G call ops N hs Fs vs rc) {listed : Array Bool} (hl : listed.size = ops.size) (h : Region.ready .any ops listed = []) : ∀ (n j : Nat), j < n → j < ops.size → listed.getD j false = true
  | 0, j, h1, _ => by omega
  | n + 1, j, h1, h2 => by
    obtain ⟨o, ho⟩ := Reg.get (ops := ops) h2
    cases hv : listed.getD j false with
    | true => rfl
    | false =>
      exfalso
      have : j ∈ Region.ready .any ops listed := by
        refine mem_ready.2 ⟨?_, o, ho, fun e he hb => ?_⟩
        · have hlt : j < listed.size := by omega
          simp [Array.getD, hlt] at hv ⊢
          exact hv
        · have hd := belowAll_ok (R.below j o ho) e.on (depsOf_mem.2 ⟨e, by simpa using he, hb, rfl⟩)
          exact R.all_listed hl h n e.on (by omega) (by omega)
      rw [h] at this
      simp at this

/-- At the end. -/
theorem Inv.last (R : Reg P G call ops N hs Fs vs rc) (I : Inv P G ops N hs Fs vs rc h0 pl0 M0 w0 L a w) (hall : ∀ j, j < ops.size → L j) :
    ∃ pl M, Rep pl M (hs ops.size) w ∧ Step h0 pl0 M0 w0 (hs ops.size) pl M w ∧ FrRel pl M (Fs ops.size) a := by
  obtain ⟨hdown, ⟨pl, M, g, hr, hst, hV, hU, hF1, hF2⟩, hsz, hdf⟩ := I
  have key : ∀ id o, (hs ops.size).get id = some o → g id = some o := fun id o hg => hV id ops.size o (Nat.le_refl _) (fun i hi _ => hall i hi) (fun i h1 h2 => by omega) hg
  obtain ⟨hfn, hfr⟩ := R.frame ops.size (Nat.le_refl _)
  refine ⟨pl, M, ⟨hr.dom, fun id p o hp hg => hr.obj id p o hp (key id o hg), hr.blk, hr.inj, hr.imm, hr.sep⟩, ⟨hst.ext, hst.new, hst.mem, hst.size, hst.kept, hst.blks, fun id p hp hg => ?_, hst.stay, hst.memNew, hst.os, hst.tape, hst.out⟩, ⟨by rw [hsz, hfn], hdf, fun t u ht => ?_⟩⟩
  · cases hh : (hs ops.size).get id with
    | none => rfl
    | some o => have := hst.live id p hp hg; rw [key id o hh] at this; cases this
  · obtain ⟨k1, k2⟩ := hfr t u ht
    refine ⟨by rw [hfn]; exact k1, ?_⟩
    rcases k2 with ⟨i, oi, q1, q2, q3, q4⟩ | ⟨q1, q2⟩
    · subst q4
      exact hF1 i oi t q2 (hall i q1) q3
    · exact hF2 t u (fun i oi hoi _ => q1 i oi (Array.getElem?_eq_some_iff.1 hoi).1 hoi) q2

theorem any_ok (R : Reg P G call ops N hs Fs vs rc) (hG : GOk G pl0 M0) (hdom : ∀ id p, pl0 id = some p → id < h0.n) (hh0 : h0.n ≤ (hs 0).n) {Q : Exit → Act → World → Prop}
    (hQ : ∀ a1 w1, (∃ pl M, Rep pl M (hs ops.size) w1 ∧ Step h0 pl0 M0 w0 (hs ops.size) pl M w1 ∧ FrRel pl M (Fs ops.size) a1) → Q .normal a1 w1) :
    ∀ (fuel : Nat) (listed : Array Bool) (a : Act) (w : World), listed.size = ops.size → listed.count false ≤ fuel → Inv P G ops N hs Fs vs rc h0 pl0 M0 w0 (fun j => listed.getD j false = true) a w → wpAny P .any ops Q fuel listed a w := by
  intro fuel
  induction fuel with
  | zero =>
    intro listed a w hl hc I
    have hall : ∀ j, j < ops.size → listed.getD j false = true := by
      intro j hj
      have hlt : j < listed.size := by omega
      cases hv : listed[j] with
      | true => simp [Array.getD, hlt, hv]
      | false =>
        have h1 : 0 < listed.count false := Array.count_pos_iff.2 (hv ▸ Array.getElem_mem hlt)
        omega
    refine ⟨?_, hQ a w (I.last R hall)⟩
    refine List.eq_nil_iff_forall_not_mem.2 fun j hj => ?_
    obtain ⟨h1, o, ho, _⟩ := mem_ready.1 hj
    have hlt : j < ops.size := (Array.getElem?_eq_some_iff.1 ho).1
    have h2 := hall j hlt
    have hlt : j < listed.size := by omega
    simp [Array.getD, hlt] at h1 h2
    rw [h1] at h2; cases h2
  | succ fuel ih =>
    intro listed a w hl hc I
    refine ⟨fun h => hQ a w (I.last R fun j hj => R.all_listed hl h (j + 1) j (by omega) hj), fun j hj => ?_⟩
    obtain ⟨h1, o, ho, h2⟩ := mem_ready.1 hj
    have hlt0 : j < ops.size := (Array.getElem?_eq_some_iff.1 ho).1
    have hlt : j < listed.size := by omega
    have hf : listed[j] = false := by simpa [Array.getD, hlt] using h1
    refine I.step R hG hdom hh0 ho (by simp [Array.getD, hlt, hf]) (fun d hd => ?_) fun a' w' I' => ?_
    · obtain ⟨e, he, hb, rfl⟩ := depsOf_mem.1 hd
      exact h2 e (by simpa using he) hb
    · refine ih _ a' w' (by simpa using hl) ?_ ?_
      · have hs : listed.setIfInBounds j true = listed.set j true hlt := by simp [Array.setIfInBounds, hlt]
        rw [hs, Array.count_set]
        have : 0 < listed.count false := Array.count_pos_iff.2 (hf ▸ Array.getElem_mem hlt)
        simp [hf]
        omega
      · have e : (fun i => i = j ∨ listed.getD i false = true) = fun i => (listed.setIfInBounds j true).getD i false = true := by
          funext i
          apply propext
          by_cases q : j = i
          · subst q
            simp [Array.getD, hlt]
          · rw [getD_set_ne false q]
            constructor
            · rintro (h | h)
              · exact absurd h.symm q
              · exact h
            · exact .inr
        rw [← e]; exact I'

theorem readyAll_get {masks : List (Nat × Nat)} : ∀ {l : List Oper} {i : Nat} {ds : List DOper}, readyAll P G ops masks l i = some ds → ds.length = l.length ∧ ∀ (k : Nat) (o : Oper), l[k]? = some o →
    belowAll (i + k) (depsOf o.after.toList) = true ∧ looksOk masks (depsOf o.after.toList) (o.looksAt ops) (i + k) ops.toList 0 = true ∧
    ds[k]? = some ⟨oneOper P G ops o, o.looksAt ops, footOf o.op, kindOf o.op, maskAt masks (i + k)⟩
  | [], i, ds, e => by simp [readyAll] at e; subst e; exact ⟨rfl, fun k o h => by simp at h⟩
  | o' :: r, i, ds, e => by
    simp only [readyAll] at e
    split at e
    · rename_i hck
      simp only [Bool.and_eq_true] at hck
      cases hr : readyAll P G ops masks r (i + 1) with
      | none => rw [hr] at e; simp at e
      | some l =>
        rw [hr] at e
        simp at e
        subst e
        obtain ⟨h1, h2⟩ := readyAll_get hr
        refine ⟨by simp [h1], fun k o hk => ?_⟩
        match k, hk with
        | 0, hk =>
          simp at hk
          subst hk
          exact ⟨hck.1, hck.2, rfl⟩
        | k + 1, hk =>
          have := h2 k o (by simpa using hk)
          rw [show i + (k + 1) = i + 1 + k by omega]
          simpa using this
    · simp at e

theorem dstsOk_ok : ∀ {l : List Oper}, dstsOk l = true → ∀ (i j : Nat) (oi oj : Oper) (t : Tmp), l[i]? = some oi → l[j]? = some oj → oi.dst = some t → oj.dst = some t → i = j
  | [], _, i, j, oi, oj, t, h, _, _, _ => by simp at h
  | o :: r, e, i, j, oi, oj, t, hi, hj, h1, h2 => by
    simp only [dstsOk, Bool.and_eq_true] at e
    have clash : ∀ (k : Nat) (q : Oper), r[k]? = some q → o.dst = some t → q.dst = some t → False := by
      intro k q hk a b
      have e1 := e.1
      rw [a] at e1
      have := List.all_eq_true.1 e1 q (List.mem_of_getElem? hk)
      rw [b] at this
      simp [beq_iff] at this
    match i, j, hi, hj with
    | 0, 0, _, _ => rfl
    | 0, j + 1, hi, hj => simp at hi; subst hi; exact (clash j oj (by simpa using hj) h1 h2).elim
    | i + 1, 0, hi, hj => simp at hj; subst hj; exact (clash i oi (by simpa using hi) h2 h1).elim
    | i + 1, j + 1, hi, hj => rw [dstsOk_ok e.2 i j oi oj t (by simpa using hi) (by simpa using hj) h1 h2]

/-- A program that may draw any order: its regions. -/
theorem draw_ok (hm : P.follows .mixedOrders = true) (hc : CallerOK P G call) : DrawOK P G call := by
  intro N h0 pl0 M0 w0 ops id s s' a w Q e hsn hQ
  unfold drawOps at e
  split at e
  · rename_i hck
    simp only [Bool.and_eq_true] at hck
    split at e
    · rename_i _ ds hrd
      have e : smallEnd ((drawGo ds).run call s.tmps s.heap [] 0) = some s' := e
      obtain ⟨⟨pl, M, g1, g2, g3, g4, g5⟩, hn, hsm⟩ := hsn
      cases hgo : (drawGo ds).run call s.tmps s.heap [] 0 with
      | none => rw [hgo] at e; simp [smallEnd] at e
      | some s1 =>
        rw [hgo] at e
        simp only [smallEnd] at e
        split at e
        · rename_i hbig
          simp at e
          subst e
          rw [ble_iff] at hbig
          simp only [decide_eq_true_eq] at hbig
          obtain ⟨hs, Fs, vs, rc, a1, _, D, rfl⟩ := drawGo_data (call := call) ds 0 (fun _ => s.heap) (fun _ => s.tmps) (fun _ => undefA) (fun _ => ⟨⟨false, [], 0, 0⟩, ⟨false, [], 0, 0⟩⟩) s1 hgo
          obtain ⟨e1, e2⟩ := a1 0 (Nat.le_refl _)
          obtain ⟨hlen, hget⟩ := readyAll_get hrd
          have hlen : ds.length = ops.size := by simpa using hlen
          rw [Nat.zero_add, hlen] at hQ hbig
          have R : Reg P G call ops N hs Fs vs rc := by
            refine ⟨hsm, by rw [e2]; exact hn, fun t u h => ?_, hbig, fun j o ho => ?_, fun j o ho => ?_, fun j o ho i hi hcl => ?_, fun j o ho => ?_, fun j o ho => ?_, fun i j oi oj t hi hj => dstsOk_ok hck.1 i j oi oj t (by simpa using hi) (by simpa using hj)⟩
            · rw [e2] at h
              have := (g3.at_ t u h).1
              omega
            · obtain ⟨_, _, h3⟩ := hget j o (by simpa using ho)
              have h4 := D.one j _ h3
              simp only [Nat.zero_add] at h4
              exact dOne_ok hc rfl rfl h4
            · obtain ⟨_, _, h3⟩ := hget j o (by simpa using ho)
              have h4 := D.put j _ h3
              simp only [Nat.zero_add] at h4
              exact h4
            · obtain ⟨_, _, h3⟩ := hget j o (by simpa using ho)
              have h4 := D.ord j _ h3 i (by omega)
              simp only [Nat.zero_add] at h4
              exact h4 hcl
            · obtain ⟨h1, _, _⟩ := hget j o (by simpa using ho)
              simpa using h1
            · obtain ⟨_, h1, _⟩ := hget j o (by simpa using ho)
              simpa using h1
          refine wp_region_any hm (any_ok R (h0 := s.heap) (pl0 := pl) (M0 := M) (w0 := w) g1 g2.dom (by rw [e1]; exact Nat.le_refl _) (fun a1 w1 h1 => ?_) ops.size _ a _ (by simp) ?_ ?_)
          · obtain ⟨pl1, M1, k1, k2, k3⟩ := h1
            refine hQ a1 w1 ⟨⟨pl1, M1, g1.mono k2.ext k2.mem, k1, k3, g4.trans k2 g5, ?_⟩, (R.frame ops.size (Nat.le_refl _)).1, hsm⟩
            have := R.mono (Nat.zero_le ops.size) (Nat.le_refl _)
            rw [e1] at this
            exact Nat.le_trans g5 this
          · refine Nat.le_trans Array.count_le_size (by simp)
          · have hno : ∀ j, ¬ (Array.replicate ops.size false).getD j false = true := by
              intro j h
              by_cases hj : j < ops.size <;> simp [Array.getD, hj] at h
            refine ⟨fun i hi => absurd hi (hno i), ⟨pl, M, s.heap.get, ?_, ?_, fun id m o hm ha _ hg => ?_, fun j hj _ id h1 h2 => ?_, fun j o t _ h => absurd h (hno j), fun t u _ hu => ?_⟩, by rw [g3.size]; exact hn, g3.defers⟩
            · refine ⟨fun id p hp => ?_, g2.obj, g2.blk, g2.inj, g2.imm, g2.sep⟩
              have h1 := g2.dom id p hp
              have := R.mono (Nat.zero_le ops.size) (Nat.le_refl _)
              rw [e1] at this
              omega
            · exact ⟨Ext.refl _, fun _ _ h => h, fun _ _ h => h, Nat.le_refl _, fun _ _ _ => rfl, fun id p h => .inl ⟨p, h, rfl⟩, fun _ _ _ h => h, fun _ _ h _ => h, fun _ _ h => .inl h, rfl, rfl, rfl⟩
            · have := R.back (j := 0) m (Nat.zero_le _) hm (fun i _ h2 hw => hno i (ha i h2 hw)) hg
              rw [e1] at this
              exact this
            · cases hp : pl id with
              | none => rfl
              | some p =>
                have h3 := g2.dom id p hp
                have := R.mono (Nat.zero_le j) (by omega)
                rw [e1] at this
                omega
            · rw [e2] at hu
              exact (g3.at_ t u hu).2
        · simp at e
    · simp at e
  · simp at e

end
end Go.Ev

/- The evaluator is sound; closed runs. -/
namespace Go.Ev
open Go

/-- The machine's answers are the model's: no premise on regions is left. -/
theorem ev_ok {C : Cfg} (hN : NoNG C.P) (hm : C.P.follows .mixedOrders = true) (hH : HookOK C) (k : Nat) : CallerOK C.P C.G (evFunc C k) :=
  evFunc_ok hN hH (fun _ hc => draw_ok hm hc) k

end Go.Ev

/- Rules over the abstract machine: what a piece of code does to an abstract state, said by what may be left. -/
namespace Go.Ev
open Go

/-- The base of a run: 'b' true: nothing is shown there. -/
def Base (b : Bool) (h0 : AHeap) (pl0 : Pl) : Prop := b = true → h0.n = 0 ∧ ∀ id, pl0 id = none

/-- A call's outcome: a value and a heap that 'Ψ' allows. -/
def CallPost (P : Program) (pl : Pl) (M : Mem) (h : AHeap) (w : World) (f : FuncId) (vs : Array Value) (Ψ : AV → AHeap → Prop) : Prop :=
  ((callFunc f vs).run P w = .ok (.enter f vs) w ∧ Calls P f vs w fun e w' => ∃ cv v h', e = .returned cv ∧ Ψ v h' ∧ After pl M h w v h' cv w') ∨
  (∃ cv w' v h', (callFunc f vs).run P w = .ok (.value cv) w' ∧ Ψ v h' ∧ After pl M h w v h' cv w')

def HCall (P : Program) (G : Env) (f : FuncId) (args : List AV) (h : AHeap) (Ψ : AV → AHeap → Prop) : Prop :=
  ∀ (pl : Pl) (M : Mem) (w : World) (vs : Array Value), GOk G pl M → Rep pl M h w → VRels pl M args vs → CallPost P pl M h w f vs Ψ

def HCode (P : Program) (G : Env) (b : Bool) (c : Code) (s : St) (Φ : AExit → St → Prop) : Prop :=
  ∀ (N : Nat) (h0 : AHeap) (pl0 : Pl) (M0 : Mem) (w0 : World) (a : Act) (w : World) (Q : Exit → Act → World → Prop), Base b h0 pl0 → SNow G N h0 pl0 M0 w0 s a w →
    (∀ e s' a1 w1, Φ e s' → SNow G N h0 pl0 M0 w0 s' a1 w1 → Q (toExit e) a1 w1) → c.wp P Q a w

def HOps (P : Program) (G : Env) (b : Bool) (ops : Array Oper) (l : List Oper) (s : St) (Φ : St → Prop) : Prop :=
  ∀ (i : Nat) (N : Nat) (h0 : AHeap) (pl0 : Pl) (M0 : Mem) (w0 : World) (a : Act) (w : World) (Q : Exit → Act → World → Prop), Base b h0 pl0 → (∀ j, ops[i + j]? = l[j]?) → SNow G N h0 pl0 M0 w0 s a w →
    (∀ s' a1 w1, Φ s' → SNow G N h0 pl0 M0 w0 s' a1 w1 → Q .normal a1 w1) → wpOps P ops Q (List.range' i l.length) a w

def noCall : Caller := fun _ _ _ => none

section
variable {P : Program} {G : Env} {b : Bool} {ops : Array Oper} {l : List Oper} {o : Oper} {s s' : St} {h h' : AHeap} {v : AV} {A A' : Fr} {call : Caller} {f : FuncId} {args : List AV} {c d : Code}

theorem noCall_ok : CallerOK P G noCall := fun _ _ _ _ _ h => by simp [noCall] at h

theorem HCall.mono {Ψ Ψ' : AV → AHeap → Prop} (hh : HCall P G f args h Ψ) (hi : ∀ v h', Ψ v h' → Ψ' v h') : HCall P G f args h Ψ' := by
  intro pl M w vs hg hr hv
  rcases hh pl M w vs hg hr hv with ⟨h1, h2⟩ | ⟨cv, w', v, h', h1, h2, h3⟩
  · exact .inl ⟨h1, Calls.mono h2 fun e w' ⟨cv, v, h', k1, k2, k3⟩ => ⟨cv, v, h', k1, hi v h' k2, k3⟩⟩
  · exact .inr ⟨cv, w', v, h', h1, hi v h' h2, h3⟩

/-- A caller's answer. -/
theorem HCall.of (hc : CallerOK P G call) (e : call f args h = some (v, h')) : HCall P G f args h (fun v1 h1 => v1 = v ∧ h1 = h') := by
  intro pl M w vs hg hr hv
  rcases hc f args h v h' e pl M w vs hg hr hv with ⟨h1, h2⟩ | ⟨cv, w', h1, h2⟩
  · exact .inl ⟨h1, Calls.mono h2 fun e w' ⟨cv, k1, k2⟩ => ⟨cv, v, h', k1, ⟨rfl, rfl⟩, k2⟩⟩
  · exact .inr ⟨cv, w', v, h', h1, ⟨rfl, rfl⟩, h2⟩

theorem HCode.mono {Φ Φ' : AExit → St → Prop} (hh : HCode P G b c s Φ) (hi : ∀ e s', Φ e s' → Φ' e s') : HCode P G b c s Φ' :=
  fun N h0 pl0 M0 w0 a w Q hb hs hQ => hh N h0 pl0 M0 w0 a w Q hb hs fun e s' a1 w1 h1 h2 => hQ e s' a1 w1 (hi e s' h1) h2

theorem HCode.skip {Φ : AExit → St → Prop} (h : Φ .normal s) : HCode P G b .skip s Φ :=
  fun _ _ _ _ _ a w _ _ hs hQ => wp_skip (hQ .normal s a w h hs)
theorem HCode.label {Φ : AExit → St → Prop} {x} (h : Φ .normal s) : HCode P G b (.label x) s Φ :=
  fun _ _ _ _ _ a w _ _ hs hQ => wp_label (hQ .normal s a w h hs)
theorem HCode.exit {Φ : AExit → St → Prop} {id : Nat} (h : Φ (.exit id) s) : HCode P G b (.exit id) s Φ :=
  fun _ _ _ _ _ a w _ _ hs hQ => wp_exit (hQ (.exit id) s a w h hs)
theorem HCode.ret {Φ : AExit → St → Prop} (h : Φ .ret s) : HCode P G b .ret s Φ :=
  fun _ _ _ _ _ a w _ _ hs hQ => wp_ret (hQ .ret s a w h hs)

/-- Behind a first part. -/
def Then (P : Program) (G : Env) (b : Bool) (d : Code) (Φ : AExit → St → Prop) : AExit → St → Prop
  | .normal, s => HCode P G b d s Φ
  | e, s => Φ e s

theorem HCode.seq {Φ : AExit → St → Prop} (h : HCode P G b c s (Then P G b d Φ)) : HCode P G b (.seq c d) s Φ := by
  intro N h0 pl0 M0 w0 a w Q hb hs hQ
  refine wp_seq (h N h0 pl0 M0 w0 a w _ hb hs fun e s' a1 w1 h1 h2 => ?_)
  cases e with
  | normal => exact h1 N h0 pl0 M0 w0 a1 w1 Q hb h2 hQ
  | exit id => exact hQ (.exit id) s' a1 w1 h1 h2
  | ret => exact hQ .ret s' a1 w1 h1 h2

theorem HCode.cond {Φ : AExit → St → Prop} {x : Operand} {t : Bool} (hx : (opd G x).run s.tmps = some (.bool t)) (h1 : t = true → HCode P G b c s Φ) (h2 : t = false → HCode P G b d s Φ) : HCode P G b (.cond x c d) s Φ := by
  intro N h0 pl0 M0 w0 a w Q hb hs hQ
  obtain ⟨pl, M, g1, g2, g3, g4, g5⟩ := hs.ex
  have hv := opd_ok g1 g3 hx
  generalize hq : a.eval x = y at hv
  cases hv
  cases t
  · exact wp_cond_false hq (h2 rfl N h0 pl0 M0 w0 a w Q hb hs hQ)
  · exact wp_cond_true hq (h1 rfl N h0 pl0 M0 w0 a w Q hb hs hQ)

/-- Out of a block. -/
def OutB (id : Nat) (Φ : AExit → St → Prop) : AExit → St → Prop
  | .exit k, s => if k = id then Φ .normal s else Φ (.exit k) s
  | e, s => Φ e s

theorem HCode.block {Φ : AExit → St → Prop} {id : Nat} (h : HCode P G b c s (OutB id Φ)) : HCode P G b (.block id c) s Φ := by
  intro N h0 pl0 M0 w0 a w Q hb hs hQ
  refine wp_block (h N h0 pl0 M0 w0 a w _ hb hs fun e s' a1 w1 h1 h2 => ?_)
  cases e with
  | normal => exact hQ .normal s' a1 w1 h1 h2
  | ret => exact hQ .ret s' a1 w1 h1 h2
  | exit k =>
    by_cases hk : k = id
    · simp only [OutB, hk, if_true] at h1
      simp only [toExit, Exit.inBlock, hk, if_true]
      exact hQ .normal s' a1 w1 h1 h2
    · simp only [OutB, hk, if_false] at h1
      simp only [toExit, Exit.inBlock, hk, if_false]
      exact hQ (.exit k) s' a1 w1 h1 h2

/-- The next round. -/
def Round (n : Nat) (I : Nat → St → Prop) (Φ : AExit → St → Prop) : AExit → St → Prop
  | .normal, s => ∃ m, m < n ∧ I m s
  | e, s => Φ e s

/-- A loop: an invariant with a measure. -/
theorem HCode.loop {Φ : AExit → St → Prop} (I : Nat → St → Prop) (n : Nat) (h0 : I n s) (hI : ∀ n s, I n s → HCode P G b c s (Round n I Φ)) : HCode P G b (.loop c) s Φ := by
  intro N hp0 pl0 M0 w0 a w Q hb hs hQ
  have key : ∀ (n m : Nat) (s : St) (a : Act) (w : World), n < m → I n s → SNow G N hp0 pl0 M0 w0 s a w → Code.rounds P c Q m a w := by
    intro n
    induction n using Nat.strongRecOn with
    | _ n ih =>
      intro m s a w hm hi hs
      cases m with
      | zero => omega
      | succ m =>
        rw [rounds_succ]
        refine hI n s hi N hp0 pl0 M0 w0 a w _ hb hs fun e s' a1 w1 h1 h2 => ?_
        cases e with
        | normal =>
          obtain ⟨k, hk, hi'⟩ := h1
          exact ih k hk m s' a1 w1 (by omega) hi' h2
        | exit id => exact hQ (.exit id) s' a1 w1 h1 h2
        | ret => exact hQ .ret s' a1 w1 h1 h2
  exact wp_loop_rounds (n + 1) (key n (n + 1) s a w (Nat.lt_succ_self n) h0 hs)

theorem HCode.scope {Φ : AExit → St → Prop} (h : HCode P G b c s Φ) : HCode P G b (.scope c) s Φ := by
  intro N h0 pl0 M0 w0 a w Q hb hs hQ
  refine wp_scope_straight (h N h0 pl0 M0 w0 a w _ hb hs fun e s' a1 w1 h1 h2 => ?_)
  cases e <;> exact hQ _ s' a1 w1 h1 h2

/-- By a run. -/
theorem HCode.run (hm : P.follows .mixedOrders = true) (hc : CallerOK P G call) {n : Nat} {e : AExit} {Φ : AExit → St → Prop} (hr : (evCode P G n c).run call s = some (e, s')) (h : Φ e s') : HCode P G b c s Φ :=
  fun N h0 pl0 M0 w0 a w Q _ hs hQ => code_ok hc (draw_ok hm hc) n c s e s' a w Q hr hs fun a1 w1 h1 => hQ e s' a1 w1 h h1

theorem HCode.region {Φ : AExit → St → Prop} {id : Nat} (h : HOps P G b ops ops.toList s (Φ .normal)) : HCode P G b (.region id ops false) s Φ := by
  intro N h0 pl0 M0 w0 a w Q hb hs hQ
  refine wp_region ?_
  rw [List.range_eq_range']
  have hlen : ops.size = ops.toList.length := by simp
  rw [hlen]
  exact h 0 N h0 pl0 M0 w0 a w Q hb (fun j => by simp) hs fun s' a1 w1 h1 h2 => hQ .normal s' a1 w1 h1 h2

theorem HOps.nil {Φ : St → Prop} (h : Φ s) : HOps P G b ops [] s Φ :=
  fun _ _ _ _ _ _ a w _ _ _ hs hQ => hQ s a w h hs

theorem HOps.one {Φ : St → Prop} (hc : CallerOK P G call) (e : stepR call (oneOper P G ops o) s some = some s') (h : HOps P G b ops l s' Φ) : HOps P G b ops (o :: l) s Φ := by
  intro i N h0 pl0 M0 w0 a w Q hb hl hs hQ
  have ho : ops[i]? = some o := by simpa using hl 0
  simp only [List.length_cons, List.range'_succ, wpOps, ho]
  refine oper_ok (K := wpOps P ops Q (List.range' (i + 1) l.length)) hc hs e fun s1 a1 w1 h1 h2 => ?_
  cases h2
  exact h (i + 1) N h0 pl0 M0 w0 a1 w1 Q hb (fun j => by have := hl (j + 1); simpa [Nat.add_assoc, Nat.add_comm 1 j] using this) h1 hQ

theorem stepR_split {r : ROper} {k : St → Option St} (e : stepR call r s k = some s') : ∃ s1, stepR call r s some = some s1 ∧ k s1 = some s' := by
  have finS : ∀ x : Option (AV × AHeap), fin s.tmps r.dst k x = some s' → ∃ s1, fin s.tmps r.dst some x = some s1 ∧ k s1 = some s' := by
    intro x e
    unfold fin at e ⊢
    split at e
    · split at e
      · rename_i q; exact ⟨_, by simp [q], e⟩
      · simp at e
    · simp at e
  unfold stepR at e ⊢
  cases q : guardR s.tmps r.g with
  | none => rw [q] at e; simp at e
  | some x =>
    rw [q] at e
    cases x
    · exact finS _ e
    · exact finS _ e

theorem HOps.run {Φ : St → Prop} (hc : CallerOK P G call) : ∀ {l1 : List Oper} {s : St}, (runOps P G ops l1).run call s = some s' → HOps P G b ops l s' Φ → HOps P G b ops (l1 ++ l) s Φ
  | [], s, e, h => by simp [runOps] at e; subst e; exact h
  | o :: r, s, e, h => by
    simp only [runOps] at e
    obtain ⟨s1, e1, e2⟩ := stepR_split e
    exact HOps.one hc e1 (HOps.run hc e2 h)

/-- An operation that is wanted, by its outcome. -/
theorem HOps.val {Φ : St → Prop} (hg : guardR s.tmps (guardDst ops o) = some true) (e : (opR P G o.op).run s.tmps s.heap = some (.val v h')) (hp : putA s.tmps o.dst v = some A') (h : HOps P G b ops l ⟨A', h'⟩ Φ) : HOps P G b ops (o :: l) s Φ := by
  refine HOps.one (call := noCall) noCall_ok ?_ h
  simp [stepR, oneOper, hg, e, behind, fin, hp]

/-- A call, by its contract. -/
theorem HOps.calls {Φ : St → Prop} {Ψ : AV → AHeap → Prop} (hg : guardR s.tmps (guardDst ops o) = some true) (e : (opR P G o.op).run s.tmps s.heap = some (.call f args)) (hf : HCall P G f args s.heap Ψ)
    (h : ∀ v h', Ψ v h' → ∃ A', putA s.tmps o.dst v = some A' ∧ HOps P G b ops l ⟨A', h'⟩ Φ) : HOps P G b ops (o :: l) s Φ := by
  intro i N h0 pl0 M0 w0 a w Q hb hl hs hQ
  have ho : ops[i]? = some o := by simpa using hl 0
  obtain ⟨pl, M, g1, g2, g3, g4, g5⟩ := hs.ex
  simp only [List.length_cons, List.range'_succ, wpOps, ho]
  rw [guardR_ok g3 hg]
  simp only [if_true]
  left
  obtain ⟨vs, q1, q2⟩ := ok_call (P := P) (w := w) g1 g3 e
  have key : ∀ cv w' v h', Ψ v h' → After pl M s.heap w v h' cv w' → wpOps P ops Q (List.range' (i + 1) l.length) (a.put o.dst cv) w' := by
    intro cv w' v h' hΨ ⟨pl', M', k1, k2, k3, k4⟩
    obtain ⟨A', e2, hh⟩ := h v h' hΨ
    obtain ⟨p1, p2⟩ := putA_ok (g3.mono k3.ext k3.mem) k1 (by rw [hs.n]; exact hs.small) e2
    exact hh (i + 1) N h0 pl0 M0 w0 _ w' Q hb (fun j => by have := hl (j + 1); simpa [Nat.add_assoc, Nat.add_comm 1 j] using this)
      ⟨⟨pl', M', g1.mono k3.ext k3.mem, k2, p1, g4.trans k3 g5, Nat.le_trans g5 k4⟩, by rw [← hs.n]; exact p2, hs.small⟩ hQ
  unfold Oper.wp
  rw [q2]
  rcases hf pl M w vs g1 g2 q1 with ⟨k1, k2⟩ | ⟨cv, w', v, h', k1, k2, k3⟩
  · rw [k1]
    refine Calls.mono k2 fun en w'' ⟨cv, v, h', e1, e2, e3⟩ => ?_
    subst e1
    exact key cv w'' v h' e2 e3
  · rw [k1]
    exact key cv w' v h' k2 k3

/-- Less said of the same. -/
structure SubSt (s' s : St) : Prop where
  n : s'.tmps.n = s.tmps.n
  tmps : ∀ t v, s'.tmps.get t = some v → s.tmps.get t = some v
  hn : s.heap.n ≤ s'.heap.n
  objs : ∀ id o, s'.heap.get id = some o → s.heap.get id = some o

theorem SubSt.now {N : Nat} {h0 : AHeap} {pl0 : Pl} {M0 : Mem} {w0 : World} {a : Act} {w : World} (hS : SubSt s' s) (hs : SNow G N h0 pl0 M0 w0 s a w) : SNow G N h0 pl0 M0 w0 s' a w := by
  obtain ⟨⟨pl, M, g1, g2, g3, g4, g5⟩, hn, hsm⟩ := hs
  refine ⟨⟨pl, M, g1, ⟨fun id p hp => by have := g2.dom id p hp; have := hS.hn; omega, fun id p o hp hg => g2.obj id p o hp (hS.objs id o hg), g2.blk, g2.inj, g2.imm, g2.sep⟩, ⟨by rw [hS.n]; exact g3.size, g3.defers, fun t v ht => ?_⟩, ⟨g4.ext, g4.new, g4.mem, g4.size, g4.kept, g4.blks, fun id p hp hg => ?_, g4.stay, g4.memNew, g4.os, g4.tape, g4.out⟩, Nat.le_trans g5 hS.hn⟩, by rw [hS.n]; exact hn, hsm⟩
  · have := g3.at_ t v (hS.tmps t v ht)
    rw [hS.n]; exact this
  · cases hh : s'.heap.get id with
    | none => rfl
    | some o => have := g4.live id p hp hg; rw [hS.objs id o hh] at this; cases this

theorem HOps.sub {Φ : St → Prop} (hS : SubSt s' s) (h : HOps P G b ops l s' Φ) : HOps P G b ops l s Φ :=
  fun i N h0 pl0 M0 w0 a w Q hb hl hs hQ => h i N h0 pl0 M0 w0 a w Q hb hl (hS.now hs) hQ
theorem HCode.sub {Φ : AExit → St → Prop} (hS : SubSt s' s) (h : HCode P G b c s' Φ) : HCode P G b c s Φ :=
  fun N h0 pl0 M0 w0 a w Q hb hs hQ => h N h0 pl0 M0 w0 a w Q hb (hS.now hs) hQ

/-- A function, by its body. -/
theorem HCall.enter {hp : AHeap} {fn : Func} {Ψ : AV → AHeap → Prop} (pol : Nat) (hf : P.funcs[f]? = some fn) (hN : (fn.name == "runtime.NumGoroutine") = false) (hb : fn.body = some c) (hn : Nat.ble args.length fn.ntmps = true ∧ Nat.ble fn.ntmps 60000 = true)
    (h : HCode P G (Nat.beq hp.n 0) c ⟨⟨fn.ntmps, argsFr fn.ntmps args 0 .nil⟩, hp⟩ fun e s => (∀ id, e ≠ .exit id) ∧ ∃ v, oneOrTuple (resultsR P fn.results.toList s.tmps s.heap) = some v ∧ Ψ (leave pol hp.n v s.heap).1 (leave pol hp.n v s.heap).2) : HCall P G f args hp Ψ := by
  intro pl M w vs hg hr hv
  simp only [ble_iff, decide_eq_true_eq] at hn
  left
  simp only [beq_eq_false_iff_ne, ne_eq] at hN
  refine ⟨by simp [callFunc, hf, hN, hb], calls_of_wp hf hb ?_⟩
  have hs0 : SNow G fn.ntmps hp pl M w ⟨⟨fn.ntmps, argsFr fn.ntmps args 0 .nil⟩, hp⟩ { tmps := vs ++ Array.replicate (fn.ntmps - vs.size) undef, defers := [] } w :=
    ⟨⟨pl, M, hg, hr, start_fr hv hn.1 hn.2, Step.refl _ _ _ _, Nat.le_refl _⟩, rfl, hn.2⟩
  refine h fn.ntmps hp pl M w _ w _ (fun hb => ?_) hs0 fun e s a1 w1 h1 h2 => ?_
  · rw [beq_iff] at hb
    simp only [decide_eq_true_eq] at hb
    refine ⟨hb, fun id => ?_⟩
    cases hq : pl id with
    | none => rfl
    | some p => have := hr.dom id p hq; omega
  · obtain ⟨hne, v, hres, hΨ⟩ := h1
    obtain ⟨pl1, M1, g1, g2, g3, g4, g5⟩ := h2.ex
    obtain ⟨cv, k1, k2⟩ := results_ok g2 g3 hres
    obtain ⟨pl2, M2, q1, q2, q3, q4⟩ := leave_ok pol hr g2 k2 g4 g5 (rfl : leave pol hp.n v s.heap = ((leave pol hp.n v s.heap).1, (leave pol hp.n v s.heap).2))
    have fin : a1.defers = [] ∧ ∃ u, (results fn a1.tmps).run P w1 = .ok u w1 ∧ ∃ cv v h', Ending.returned u = .returned cv ∧ Ψ v h' ∧ After pl M hp w v h' cv w1 :=
      ⟨g3.defers, cv, k1, cv, _, _, rfl, hΨ, pl2, M2, q1, q2, q3, q4⟩
    cases e with
    | exit id => exact absurd rfl (hne id)
    | normal => exact fin
    | ret => exact fin

/-- No package-level variable names an object. -/
def GTop (G : Env) : Prop := ∀ g x, G g = some x → x.top = 0

theorem rep_none {pl : Pl} {M : Mem} {n : Nat} {g : Nat → Option AObj} {w : World} (hr : RepF pl M n g w) : Rep (fun _ => none) M AHeap.none w :=
  ⟨fun _ _ h => by simp at h, fun _ _ _ h => by simp at h, fun _ _ h => by simp at h, fun _ _ _ _ h => by simp at h, hr.imm, fun _ _ h => by simp at h⟩

theorem VRel.none {pl pl' : Pl} {M : Mem} {x : Value} (h : VRel pl M v x) (ht : v.top = 0) : VRel pl' M v x :=
  h.agree (n := 0) (by omega) (fun _ _ h _ => absurd h (Nat.not_lt_zero _)) (fun _ _ h => h)

theorem VRels.none {pl pl' : Pl} {M : Mem} {xs : List AV} {ys : Array Value} (h : VRels pl M xs ys) (ht : AV.tops xs = 0) : VRels pl' M xs ys :=
  ⟨h.len, fun j y hj => (h.at_ j y hj).none (by have := tops_le.1 (Nat.le_of_eq ht) y (List.mem_of_getElem? hj); omega)⟩

theorem GOk.none {pl pl' : Pl} {M : Mem} (hG : GTop G) (h : GOk G pl M) : GOk G pl' M := fun g x hg =>
  (h g x hg).none (by have := hG g x hg; simp [AV.top, AV.tops, this]; rfl)

/-- What was run where nothing is shown leaves all as it was. -/
theorem none_step {pl pl' : Pl} {M M' : Mem} {n m : Nat} {g : Nat → Option AObj} {w w' : World} {h1 : AHeap} (hr : RepF pl M n g w) (hr' : Rep pl' M' h1 w') (hs : Step AHeap.none (fun _ => none) M w h1 pl' M' w') :
    RepF pl M' n g w' ∧ StepF m g pl M w g pl M' w' := by
  have kept : ∀ b, b < w.heap.size → w'.heap[b]? = w.heap[b]? := fun b hb => hs.kept b hb (fun id p h => by simp at h)
  refine ⟨⟨hr.dom, fun id p o hp hg => ?_, fun id p hp => Nat.lt_of_lt_of_le (hr.blk id p hp) hs.size, hr.inj, hr'.imm, fun id p hp => ?_⟩, ⟨Ext.refl _, fun _ _ h => h, hs.mem, hs.size, fun b hb _ => kept b hb, fun id p h => .inl ⟨p, h, rfl⟩, fun _ _ _ h => h, fun _ _ h _ => h, hs.memNew, hs.os, hs.tape, hs.out⟩⟩
  · rw [kept _ (hr.blk id p hp)]
    exact (hr.obj id p o hp hg).mono (Ext.refl _) hs.mem
  · cases hM : M' p.blk with
    | none => rfl
    | some c =>
      rcases hs.memNew _ c hM with k | k
      · rw [hr.sep id p hp] at k; cases k
      · have := hr.blk id p hp; omega

/-- Of plain values a plain value: wherever the call is made. -/
theorem HCall.lift {Ψ : AV → AHeap → Prop} (hG : GTop G) (ht : AV.tops args = 0) (h0 : HCall P G f args AHeap.none Ψ) (hΨ : ∀ v h', Ψ v h' → v.top = 0) (h : AHeap) :
    HCall P G f args h (fun v h' => (∃ h1, Ψ v h1) ∧ h' = h) := by
  intro pl M w vs hg hr hv
  have fin : ∀ v h1 cv w', Ψ v h1 → After (fun _ => none) M AHeap.none w v h1 cv w' → After pl M h w v h cv w' := by
    intro v h1 cv w' hp ⟨pl', M', k1, k2, k3, k4⟩
    obtain ⟨q1, q2⟩ := none_step (m := h.n) hr k2 k3
    exact ⟨pl, M', k1.none (hΨ v h1 hp), q1, q2, Nat.le_refl _⟩
  rcases h0 (fun _ => none) M w vs (hg.none hG) (rep_none hr) (hv.none ht) with ⟨h1, h2⟩ | ⟨cv, w', v, h', h1, h2, h3⟩
  · exact .inl ⟨h1, Calls.mono h2 fun e w' ⟨cv, v, h', k1, k2, k3⟩ => ⟨cv, v, h, k1, ⟨⟨h', k2⟩, rfl⟩, fin v h' cv w' k2 k3⟩⟩
  · exact .inr ⟨cv, w', v, h, h1, ⟨⟨h', h2⟩, rfl⟩, fin v h' cv w' h2 h3⟩

/-- A function of plain values. -/
def HPure (P : Program) (G : Env) (f : FuncId) (args : List AV) (v : AV) : Prop := ∀ h, HCall P G f args h (fun v1 h1 => v1 = v ∧ h1 = h)

theorem HPure.of0 (hG : GTop G) (ht : AV.tops args = 0) (hv : v.top = 0) (h0 : HCall P G f args AHeap.none (fun v1 _ => v1 = v)) : HPure P G f args v := fun h =>
  (HCall.lift hG ht h0 (fun v1 _ e => by rw [e]; exact hv) h).mono fun v1 h1 ⟨⟨_, e1⟩, e2⟩ => ⟨e1, e2⟩

/-- A function of plain values, by its body, run where nothing is shown. -/
theorem HPure.enter {fn : Func} (hG : GTop G) (ht : AV.tops args = 0) (hv : v.top = 0) (hf : P.funcs[f]? = some fn) (hN : (fn.name == "runtime.NumGoroutine") = false) (hb : fn.body = some c) (hn : Nat.ble args.length fn.ntmps = true ∧ Nat.ble fn.ntmps 60000 = true)
    (h : HCode P G true c ⟨⟨fn.ntmps, argsFr fn.ntmps args 0 .nil⟩, AHeap.none⟩ fun e s => (∀ id, e ≠ .exit id) ∧ ∃ u, oneOrTuple (resultsR P fn.results.toList s.tmps s.heap) = some u ∧ (leave 0 0 u s.heap).1 = v) : HPure P G f args v :=
  HPure.of0 hG ht hv (HCall.enter 0 hf hN hb hn h)

end
end Go.Ev

/- Rules over the abstract machine: regions that draw their order. -/
namespace Go.Ev
open Go

/-- A run of a region that draws its order, in the order of the text, operation by operation. -/
def DGo (P : Program) (G : Env) (ops : Array Oper) : Nat → List Oper → Fr → AHeap → List Rec → (Fr → AHeap → Prop) → Prop
  | _, [], F, h, _, Φ => h.n ≤ 1000000 ∧ Φ F h
  | k, o :: rest, F, h, rs, Φ => ∃ v h1 r F', DSpec P G ops o (o.looksAt ops) F h v h1 r ∧ noClash (maskAt (masksGo ops.toList 0 []) k) r rs k = true ∧ putA F o.dst v = some F' ∧ DGo P G ops (k + 1) rest F' h1 (r :: rs) Φ

section
variable {P : Program} {G : Env} {b : Bool} {ops : Array Oper} {l : List Oper} {o : Oper} {s s' : St} {h h' : AHeap} {v : AV} {A A' : Fr} {call : Caller} {f : FuncId} {args : List AV} {c d : Code}

theorem dgo_data : ∀ (l : List Oper) (k : Nat) (hs0 : Nat → AHeap) (Fs0 : Nat → Fr) (vs0 : Nat → AV) (rc0 : Nat → Rec) (Φ : Fr → AHeap → Prop), DGo P G ops k l (Fs0 k) (hs0 k) (recsTo rc0 k) Φ →
    ∃ (hs : Nat → AHeap) (Fs : Nat → Fr) (vs : Nat → AV) (rc : Nat → Rec), (∀ i, i ≤ k → hs i = hs0 i ∧ Fs i = Fs0 i) ∧ (∀ i, i < k → vs i = vs0 i ∧ rc i = rc0 i) ∧
      (∀ j o, l[j]? = some o → DSpec P G ops o (o.looksAt ops) (Fs (k + j)) (hs (k + j)) (vs (k + j)) (hs (k + j + 1)) (rc (k + j))) ∧
      (∀ j o, l[j]? = some o → putA (Fs (k + j)) o.dst (vs (k + j)) = some (Fs (k + j + 1))) ∧
      (∀ j o, l[j]? = some o → ∀ i, i < k + j → Clash (rc i) (rc (k + j)) → Nat.testBit (maskAt (masksGo ops.toList 0 []) (k + j)) i = true) ∧
      (hs (k + l.length)).n ≤ 1000000 ∧ Φ (Fs (k + l.length)) (hs (k + l.length))
  | [], k, hs0, Fs0, vs0, rc0, Φ, e => by
    obtain ⟨e1, e2⟩ := e
    exact ⟨hs0, Fs0, vs0, rc0, fun _ _ => ⟨rfl, rfl⟩, fun _ _ => ⟨rfl, rfl⟩, fun j d h => by simp at h, fun j d h => by simp at h, fun j d h => by simp at h, by simpa using e1, by simpa using e2⟩
  | o :: r, k, hs0, Fs0, vs0, rc0, Φ, e => by
    obtain ⟨v, h', rec, F', ho, hcl, hp, e⟩ := e
    let hs1 : Nat → AHeap := fun i => if i = k + 1 then h' else hs0 i
    let Fs1 : Nat → Fr := fun i => if i = k + 1 then F' else Fs0 i
    let vs1 : Nat → AV := fun i => if i = k then v else vs0 i
    let rc1 : Nat → Rec := fun i => if i = k then rec else rc0 i
    have er : rec :: recsTo rc0 k = recsTo rc1 (k + 1) := by
      simp only [recsTo]
      congr 1
      · simp [rc1]
      · exact recsTo_congr fun i hi => by simp [rc1, show i ≠ k by omega]
    have e2 : DGo P G ops (k + 1) r (Fs1 (k + 1)) (hs1 (k + 1)) (recsTo rc1 (k + 1)) Φ := by
      rw [← er]; simpa [Fs1, hs1] using e
    obtain ⟨hs, Fs, vs, rc, a1, a2, a3, a4, a5, a6, a7⟩ := dgo_data r (k + 1) hs1 Fs1 vs1 rc1 Φ e2
    have hk := a1 k (by omega)
    have hk1 := a1 (k + 1) (by omega)
    have hvk := a2 k (by omega)
    simp only [hs1, Fs1, show ¬ k = k + 1 by omega, if_false, if_true] at hk hk1
    simp only [vs1, rc1, if_true] at hvk
    refine ⟨hs, Fs, vs, rc, fun i hi => ?_, fun i hi => ?_, fun j d' hj => ?_, fun j d' hj => ?_, fun j d' hj i hi hc => ?_, ?_, ?_⟩
    · have := a1 i (by omega)
      simpa [hs1, Fs1, show i ≠ k + 1 by omega] using this
    · have := a2 i (by omega)
      simpa [vs1, rc1, show i ≠ k by omega] using this
    · match j, hj with
      | 0, hj =>
        simp at hj; subst hj
        simp only [Nat.add_zero]
        rw [hk.1, hk.2, hk1.1, hvk.1, hvk.2]; exact ho
      | j + 1, hj =>
        have := a3 j d' (by simpa using hj)
        rw [show k + (j + 1) = k + 1 + j by omega]; exact this
    · match j, hj with
      | 0, hj =>
        simp at hj; subst hj
        simp only [Nat.add_zero]
        rw [hk.2, hk1.2, hvk.1]; exact hp
      | j + 1, hj =>
        have := a4 j d' (by simpa using hj)
        rw [show k + (j + 1) = k + 1 + j by omega]; exact this
    · match j, hj with
      | 0, hj =>
        simp at hj; subst hj
        simp only [Nat.add_zero] at hi hc ⊢
        have hri := (a2 i (by omega)).2
        simp only [rc1, show ¬ i = k by omega, if_false] at hri
        rw [hri, hvk.2] at hc
        have hcl' : noClash (maskAt (masksGo ops.toList 0 []) k) rec (recsTo rc0 k) (recsTo rc0 k).length = true := by rw [recsTo_len]; exact hcl
        have := noClash_ok hcl' (k - 1 - i) (rc0 i) (recsTo_get rc0 k i hi) hc
        rw [recsTo_len, show k - 1 - (k - 1 - i) = i by omega] at this
        exact this
      | j + 1, hj =>
        rw [show k + (j + 1) = k + 1 + j by omega] at hi hc ⊢
        exact a5 j d' (by simpa using hj) i hi hc
    · simp only [List.length_cons]; rw [show k + (r.length + 1) = k + 1 + r.length by omega]; exact a6
    · simp only [List.length_cons]; rw [show k + (r.length + 1) = k + 1 + r.length by omega]; exact a7

/-- What a region that draws its order must be, whatever it is run on. -/
noncomputable def fitDraw (P : Program) (G : Env) (ops : Array Oper) : Bool := dstsOk ops.toList && Region.noSelect ops && (readyAll P G ops (masksGo ops.toList 0 []) ops.toList 0).isSome

theorem HCode.draw {Φ : AExit → St → Prop} {id : Nat} (hm : P.follows .mixedOrders = true) (hfit : fitDraw P G ops = true) (h : DGo P G ops 0 ops.toList s.tmps s.heap [] fun F hp => Φ .normal ⟨F, hp⟩) : HCode P G b (.region id ops true) s Φ := by
  intro N h0 pl0 M0 w0 a w Q hb hsn hQ
  unfold fitDraw at hfit
  simp only [Bool.and_eq_true] at hfit
  obtain ⟨⟨hck1, hck2⟩, hck3⟩ := hfit
  obtain ⟨ds, hrd⟩ := Option.isSome_iff_exists.1 hck3
  obtain ⟨⟨pl, M, g1, g2, g3, g4, g5⟩, hn, hsm⟩ := hsn
  obtain ⟨hs, Fs, vs, rc, a1, _, D1, D2, D3, D4, D5⟩ := dgo_data ops.toList 0 (fun _ => s.heap) (fun _ => s.tmps) (fun _ => undefA) (fun _ => ⟨⟨false, [], 0, 0⟩, ⟨false, [], 0, 0⟩⟩) _ h
  obtain ⟨e1, e2⟩ := a1 0 (Nat.le_refl _)
  obtain ⟨hlen, hget⟩ := readyAll_get hrd
  have hl : ops.toList.length = ops.size := by simp
  simp only [Nat.zero_add] at D1 D2 D3
  rw [Nat.zero_add, hl] at D4 D5
  have R : Reg P G noCall ops N hs Fs vs rc := by
    refine ⟨hsm, by rw [e2]; exact hn, fun t u h => ?_, D4, fun j o ho => ?_, fun j o ho => ?_, fun j o ho i hi hcl => ?_, fun j o ho => ?_, fun j o ho => ?_, fun i j oi oj t hi hj => dstsOk_ok hck1 i j oi oj t (by simpa using hi) (by simpa using hj)⟩
    · rw [e2] at h
      have := (g3.at_ t u h).1
      omega
    · exact D1 j o (by simpa using ho)
    · exact D2 j o (by simpa using ho)
    · exact D3 j o (by simpa using ho) i hi hcl
    · obtain ⟨h1, _, _⟩ := hget j o (by simpa using ho)
      simpa using h1
    · obtain ⟨_, h1, _⟩ := hget j o (by simpa using ho)
      simpa using h1
  refine wp_region_any hm (any_ok R (h0 := s.heap) (pl0 := pl) (M0 := M) (w0 := w) g1 g2.dom (by rw [e1]; exact Nat.le_refl _) (fun a1 w1 h1 => ?_) ops.size _ a _ (by simp) ?_ ?_)
  · obtain ⟨pl1, M1, k1, k2, k3⟩ := h1
    refine hQ .normal _ a1 w1 D5 ⟨⟨pl1, M1, g1.mono k2.ext k2.mem, k1, k3, g4.trans k2 g5, ?_⟩, (R.frame ops.size (Nat.le_refl _)).1, hsm⟩
    have := R.mono (Nat.zero_le ops.size) (Nat.le_refl _)
    rw [e1] at this
    exact Nat.le_trans g5 this
  · refine Nat.le_trans Array.count_le_size (by simp)
  · have hno : ∀ j, ¬ (Array.replicate ops.size false).getD j false = true := by
      intro j h
      by_cases hj : j < ops.size <;> simp [Array.getD, hj] at h
    refine ⟨fun i hi => absurd hi (hno i), ⟨pl, M, s.heap.get, ?_, ?_, fun id m o hm ha _ hg => ?_, fun j hj _ id h1 h2 => ?_, fun j o t _ h => absurd h (hno j), fun t u _ hu => ?_⟩, by rw [g3.size]; exact hn, g3.defers⟩
    · refine ⟨fun id p hp => ?_, g2.obj, g2.blk, g2.inj, g2.imm, g2.sep⟩
      have h1 := g2.dom id p hp
      have := R.mono (Nat.zero_le ops.size) (Nat.le_refl _)
      rw [e1] at this
      omega
    · exact ⟨Ext.refl _, fun _ _ h => h, fun _ _ h => h, Nat.le_refl _, fun _ _ _ => rfl, fun id p h => .inl ⟨p, h, rfl⟩, fun _ _ _ h => h, fun _ _ h _ => h, fun _ _ h => .inl h, rfl, rfl, rfl⟩
    · have := R.back (j := 0) m (Nat.zero_le _) hm (fun i _ h2 hw => hno i (ha i h2 hw)) hg
      rw [e1] at this
      exact this
    · cases hp : pl id with
      | none => rfl
      | some p =>
        have h3 := g2.dom id p hp
        have := R.mono (Nat.zero_le j) (by omega)
        rw [e1] at this
        omega
    · rw [e2] at hu
      exact (g3.at_ t u hu).2

/-- One operation of the machine's own. -/
theorem DSpec.of (hc : CallerOK P G call) {F : Fr} {h1 : AHeap} {r : Rec} (e : dOne call F h ⟨oneOper P G ops o, o.looksAt ops, footOf o.op, kindOf o.op, 0⟩ = some (v, h1, r)) : DSpec P G ops o (o.looksAt ops) F h v h1 r :=
  dOne_ok hc rfl rfl e

/-- A call of plain values for a plain value sees and changes nothing. -/
theorem DSpec.pure (hG : GTop G) {F : Fr} (hg : guardR ⟨F.n, lookFr F (o.looksAt ops) .nil⟩ (guardDst ops o) = some true) (e : (opR P G o.op).run ⟨F.n, lookFr F (o.looksAt ops) .nil⟩ h = some (.call f args))
    (ht : AV.tops args = 0) (hv : v.top = 0) (hf : HPure P G f args v) : DSpec P G ops o (o.looksAt ops) F h v h ⟨⟨false, [], 0, 0⟩, ⟨false, [], 0, 0⟩⟩ := by
  refine ⟨Nat.le_refl _, fun _ _ _ h => h, fun id h1 h2 => by omega, ?_⟩
  intro nk n0 g pl M a w K Q hn0 hnk hbig hr hvis hU hG' hs hdf hF hK
  have hf0 : FrRel pl M ⟨F.n, lookFr F (o.looksAt ops) .nil⟩ a := lookFr_rel hs hdf hF
  rw [guardR_ok hf0 hg]
  simp only [if_true]
  left
  have hG2 : GOk G pl M := hG'.none hG
  obtain ⟨vs, q1, q2⟩ := ok_call (P := P) (w := w) hG2 hf0 e
  have fin : ∀ h1 cv w', After (fun _ => none) M AHeap.none w v h1 cv w' → K (a.put o.dst cv) w' := by
    intro h1 cv w' ⟨pl', M', k1, k2, k3, k4⟩
    obtain ⟨z1, z2⟩ := none_step (m := n0) hr k2 k3
    exact hK cv w' pl M' g z1 z2 (k1.none hv) (Ext.refl _) (fun id h _ => h) (fun _ _ => rfl) (fun id o' hh => absurd hh (noneHolds (ids := [])))
  unfold Oper.wp
  rw [q2]
  rcases hf AHeap.none (fun _ => none) M w vs (hG2.none hG) (rep_none hr) (q1.none ht) with ⟨k1, k2⟩ | ⟨cv, w', v', h', k1, ⟨rfl, rfl⟩, k3⟩
  · rw [k1]
    refine Calls.mono k2 fun en w'' ⟨cv, v', h', e1, e2, e3⟩ => ?_
    obtain ⟨rfl, rfl⟩ := e2
    subst e1
    exact fin _ cv w'' e3
  · rw [k1]
    exact fin _ cv w' k3

end
end Go.Ev

/- Rules over the abstract machine: states written as lists; runs by the kernel. -/
namespace Go.Ev
open Go
noncomputable section

def putAll : List (Nat × AV) → Tr AV → Tr AV
  | [], t => t
  | p :: r, t => putAll r (match Nat.blt p.1 60000 with | true => t.set 16 p.1 p.2 | false => t)

/-- A frame: what its temporaries hold, the later word over the earlier. -/
def mkFr (n : Nat) (L : List (Nat × AV)) : Fr := ⟨n, putAll L .nil⟩

def objAll : List AObj → Nat → Tr AObj → Tr AObj
  | [], _, t => t
  | o :: r, i, t => objAll r (i + 1) (match Nat.blt i 1000000 with | true => t.set 20 i o | false => t)

/-- The objects, from the number 0 on. -/
def mkH (L : List AObj) : AHeap := ⟨L.length, objAll L 0 .nil⟩

def getAll (A : Fr) : List Nat → Option (List AV)
  | [] => some []
  | t :: r => match A.get t with
    | some v => match getAll A r with | some vs => some (v :: vs) | none => none
    | none => none

def objsUp (h : AHeap) : Nat → Nat → List AObj
  | 0, _ => []
  | k + 1, i => (match h.get i with | some o => o | none => .dead) :: objsUp h k (i + 1)

/-- What is picked of an outcome: how it is left, temporaries, all objects. -/
def pickC (n : Nat) (ts : List Nat) : Option (AExit × St) → Option (AExit × List AV × List AObj)
  | some (x, s) => match Nat.beq s.tmps.n n with
    | true => match getAll s.tmps ts with
      | some vs => some (x, vs, objsUp s.heap s.heap.n 0)
      | none => none
    | false => none
  | none => none

/-- The same, the heap as it stands. -/
def pickH (n : Nat) (ts : List Nat) : Option (AExit × St) → Option (AExit × List AV × AHeap)
  | some (x, s) => match Nat.beq s.tmps.n n with
    | true => match getAll s.tmps ts with
      | some vs => some (x, vs, s.heap)
      | none => none
    | false => none
  | none => none

section
variable {P : Program} {G : Env} {b : Bool} {ops : Array Oper} {l : List Oper} {o : Oper} {s s' : St} {h h' : AHeap} {v : AV} {A A' : Fr} {call : Caller} {f : FuncId} {args : List AV} {c d : Code}

theorem putAll_get : ∀ {L : List (Nat × AV)} {t : Tr AV} {x : Nat} {v : AV}, (putAll L t).get x = some v → (x, v) ∈ L ∨ t.get x = some v
  | [], t, x, v, h => .inr h
  | p :: r, t, x, v, h => by
    simp only [putAll] at h
    rcases putAll_get h with h1 | h1
    · exact .inl (List.mem_cons_of_mem _ h1)
    · rw [blt_iff] at h1
      by_cases hlt : p.1 < 60000
      · simp only [hlt, decide_true] at h1
        rcases Tr.get_set 16 t p.1 p.2 x v (Nat.lt_trans (Nat.succ_lt_succ hlt) (by decide)) h1 with ⟨rfl, rfl⟩ | ⟨_, h2⟩
        · exact .inl (by simp)
        · exact .inr h2
      · simp only [hlt, decide_false] at h1
        exact .inr h1

theorem mkFr_get {n : Nat} {L : List (Nat × AV)} {x : Nat} {v : AV} (h : (mkFr n L).get x = some v) : (x, v) ∈ L := by
  rcases putAll_get (t := .nil) h with h1 | h1
  · exact h1
  · rw [Tr.get_nil] at h1; cases h1

theorem putAll_append : ∀ (L K : List (Nat × AV)) (t : Tr AV), putAll (L ++ K) t = putAll K (putAll L t)
  | [], K, t => rfl
  | p :: r, K, t => by simp only [List.cons_append, putAll]; exact putAll_append r K _

/-- A temporary more. -/
theorem putA_mkFr {n t : Nat} {L : List (Nat × AV)} {v : AV} (ht : Nat.blt t n = true) (ht2 : Nat.blt t 60000 = true) : putA (mkFr n L) (some t) v = some (mkFr n (L ++ [(t, v)])) := by
  show (match Nat.blt t n with | true => some (⟨n, (putAll L .nil).set 16 t v⟩ : Fr) | false => none) = _
  rw [ht]
  simp only [mkFr, putAll_append, putAll, ht2]

theorem objAll_get : ∀ {L : List AObj} {i : Nat} {t : Tr AObj} {x : Nat} {o : AObj}, (objAll L i t).get x = some o → (i ≤ x ∧ L[x - i]? = some o) ∨ t.get x = some o
  | [], i, t, x, o, h => .inr h
  | q :: r, i, t, x, o, h => by
    simp only [objAll] at h
    rcases objAll_get h with ⟨h1, h2⟩ | h1
    · exact .inl ⟨by omega, by rw [show x - i = (x - (i + 1)) + 1 by omega]; simpa using h2⟩
    · rw [blt_iff] at h1
      by_cases hlt : i < 1000000
      · simp only [hlt, decide_true] at h1
        rcases Tr.get_set 20 t i q x o (Nat.lt_trans (Nat.succ_lt_succ hlt) (by decide)) h1 with ⟨rfl, rfl⟩ | ⟨_, h2⟩
        · exact .inl ⟨Nat.le_refl _, by simp⟩
        · exact .inr h2
      · simp only [hlt, decide_false] at h1
        exact .inr h1

theorem mkH_get {L : List AObj} {x : Nat} {o : AObj} (h : (mkH L).get x = some o) : L[x]? = some o := by
  obtain ⟨_, _, h3⟩ := AHeap.get_some.1 h
  rcases objAll_get (t := .nil) h3 with ⟨_, h1⟩ | h1
  · simpa using h1
  · rw [Tr.get_nil] at h1; cases h1

theorem getAll_get : ∀ {ts : List Nat} {vs : List AV}, getAll A ts = some vs → ∀ t v, (t, v) ∈ ts.zip vs → A.get t = some v
  | [], vs, _, t, v, h => by simp at h
  | x :: r, vs, e, t, v, h => by
    simp only [getAll] at e
    cases hx : A.get x with
    | none => simp [hx] at e
    | some u =>
      cases hr : getAll A r with
      | none => simp [hx, hr] at e
      | some us =>
        simp [hx, hr] at e
        subst e
        simp only [List.zip_cons_cons, List.mem_cons, Prod.mk.injEq] at h
        rcases h with ⟨rfl, rfl⟩ | h
        · exact hx
        · exact getAll_get hr t v h

theorem objsUp_len : ∀ (k i : Nat), (objsUp h k i).length = k
  | 0, _ => rfl
  | k + 1, i => by simp [objsUp, objsUp_len k (i + 1)]

theorem objsUp_get : ∀ (k i j : Nat) (o : AObj), (objsUp h k i)[j]? = some o → h.get (i + j) = some o ∨ (h.get (i + j) = none ∧ o = .dead)
  | 0, i, j, o, e => by simp [objsUp] at e
  | k + 1, i, 0, o, e => by
    simp [objsUp] at e
    cases hq : h.get i with
    | none => rw [hq] at e; simp at e; exact .inr ⟨rfl, e.symm⟩
    | some o' => rw [hq] at e; simp at e; subst e; exact .inl rfl
  | k + 1, i, j + 1, o, e => by
    simp only [objsUp, List.getElem?_cons_succ] at e
    rw [show i + (j + 1) = i + 1 + j by omega]
    exact objsUp_get k (i + 1) j o e

/-- Less said of the same, a dead object where none is shown. -/
structure SubSt2 (s' s : St) : Prop where
  n : s'.tmps.n = s.tmps.n
  tmps : ∀ t v, s'.tmps.get t = some v → s.tmps.get t = some v
  hn : s.heap.n ≤ s'.heap.n
  objs : ∀ id o, s'.heap.get id = some o → s.heap.get id = some o

theorem pickH_sub {n : Nat} {ts : List Nat} {x y : AExit} {s1 : St} {vs : List AV} {hp : AHeap} (e : pickH n ts (some (x, s1)) = some (y, vs, hp)) : y = x ∧ SubSt ⟨mkFr n (ts.zip vs), hp⟩ s1 := by
  simp only [pickH] at e
  split at e
  · rename_i hn
    rw [beq_iff] at hn
    simp only [decide_eq_true_eq] at hn
    cases hg : getAll s1.tmps ts with
    | none => simp [hg] at e
    | some us =>
      simp [hg] at e
      obtain ⟨rfl, rfl, rfl⟩ := e
      exact ⟨rfl, hn.symm, fun t v h => getAll_get hg t v (mkFr_get h), Nat.le_refl _, fun _ _ h => h⟩
  · simp at e

/-- The objects that are shown, as a list; where one is not shown, the list has a dead one: that says nothing. -/
theorem SNow.objs {N : Nat} {h0 : AHeap} {pl0 : Pl} {M0 : Mem} {w0 : World} {a : Act} {w : World} {F : Fr} (hb : Base true h0 pl0) (hs : SNow G N h0 pl0 M0 w0 s a w) (hF : F.n = s.tmps.n) (hFt : ∀ t v, F.get t = some v → s.tmps.get t = some v) :
    SNow G N h0 pl0 M0 w0 ⟨F, mkH (objsUp s.heap s.heap.n 0)⟩ a w := by
  obtain ⟨⟨pl, M, g1, g2, g3, g4, g5⟩, hn, hsm⟩ := hs
  obtain ⟨b1, b2⟩ := hb rfl
  have hlen : (mkH (objsUp s.heap s.heap.n 0)).n = s.heap.n := by simp [mkH, objsUp_len]
  refine ⟨⟨pl, M, g1, ⟨fun id p hp => by rw [hlen]; exact g2.dom id p hp, fun id p o hp hg => ?_, g2.blk, g2.inj, g2.imm, g2.sep⟩, ⟨by rw [hF]; exact g3.size, g3.defers, fun t v ht => by rw [hF]; exact g3.at_ t v (hFt t v ht)⟩,
    ⟨g4.ext, g4.new, g4.mem, g4.size, g4.kept, g4.blks, (fun id p hp hg => by rw [b2] at hp; cases hp), g4.stay, g4.memNew, g4.os, g4.tape, g4.out⟩, by rw [hlen]; exact g5⟩, by rw [hF]; exact hn, hsm⟩
  rcases objsUp_get _ _ _ _ (mkH_get hg) with h1 | ⟨_, rfl⟩
  · exact g2.obj id p o hp (by simpa using h1)
  · trivial

theorem HCode.pickH (hm : P.follows .mixedOrders = true) (hc : CallerOK P G call) (k n : Nat) (ts : List Nat) {x : AExit} {vs : List AV} {hp : AHeap} {Φ : AExit → St → Prop}
    (e : pickH n ts ((evCode P G k c).run call s) = some (x, vs, hp)) (h : Φ x ⟨mkFr n (ts.zip vs), hp⟩) : HCode P G b c s Φ := by
  cases hr : (evCode P G k c).run call s with
  | none => rw [hr] at e; simp [Ev.pickH] at e
  | some r =>
    obtain ⟨y, s1⟩ := r
    rw [hr] at e
    obtain ⟨rfl, hS⟩ := pickH_sub e
    intro N h0 pl0 M0 w0 a w Q hb hs hQ
    exact code_ok hc (draw_ok hm hc) k c s x s1 a w Q hr hs fun a1 w1 h1 => hQ x _ a1 w1 h (hS.now h1)

theorem HCode.pick (hm : P.follows .mixedOrders = true) (hc : CallerOK P G call) (k n : Nat) (ts : List Nat) {x : AExit} {vs : List AV} {os : List AObj} {Φ : AExit → St → Prop}
    (e : pickC n ts ((evCode P G k c).run call s) = some (x, vs, os)) (h : Φ x ⟨mkFr n (ts.zip vs), mkH os⟩) : HCode P G true c s Φ := by
  cases hr : (evCode P G k c).run call s with
  | none => rw [hr] at e; simp [pickC] at e
  | some r =>
    obtain ⟨y, s1⟩ := r
    rw [hr] at e
    simp only [pickC] at e
    split at e
    · rename_i hn
      rw [beq_iff] at hn
      simp only [decide_eq_true_eq] at hn
      cases hg : getAll s1.tmps ts with
      | none => simp [hg] at e
      | some us =>
        simp [hg] at e
        obtain ⟨rfl, rfl, rfl⟩ := e
        intro N h0 pl0 M0 w0 a w Q hb hs hQ
        exact code_ok hc (draw_ok hm hc) k c s y s1 a w Q hr hs fun a1 w1 h1 => hQ y _ a1 w1 h (h1.objs hb (F := mkFr n (ts.zip us)) hn.symm fun t v ht => getAll_get hg t v (mkFr_get ht))
    · simp at e

/-- A part of a region's operations, by the kernel. -/
def pickOps (n : Nat) (ts : List Nat) : Option St → Option (List AV × AHeap)
  | some s => match Nat.beq s.tmps.n n with
    | true => match getAll s.tmps ts with
      | some vs => some (vs, s.heap)
      | none => none
    | false => none
  | none => none

theorem HOps.pick (hc : CallerOK P G call) {l1 : List Oper} (n : Nat) (ts : List Nat) {vs : List AV} {hp : AHeap} {Φ : St → Prop} (e : pickOps n ts ((runOps P G ops l1).run call s) = some (vs, hp))
    (h : HOps P G b ops l ⟨mkFr n (ts.zip vs), hp⟩ Φ) : HOps P G b ops (l1 ++ l) s Φ := by
  cases hr : (runOps P G ops l1).run call s with
  | none => rw [hr] at e; simp [pickOps] at e
  | some s1 =>
    rw [hr] at e
    have e : Ev.pickH n ts (some (.normal, s1)) = some (.normal, vs, hp) := by
      simp only [pickOps] at e
      simp only [Ev.pickH]
      split at e
      · rename_i hn
        cases hg : getAll s1.tmps ts with
        | none => simp [hg] at e
        | some us => simp [hg] at e; simp [e]
      · simp at e
    exact HOps.run hc hr (HOps.sub (pickH_sub e).2 h)

/-- The objects of a state as a list. -/
theorem HOps.objs {Φ : St → Prop} (h : HOps P G true ops l ⟨s.tmps, mkH (objsUp s.heap s.heap.n 0)⟩ Φ) : HOps P G true ops l s Φ :=
  fun i N h0 pl0 M0 w0 a w Q hb hl hs hQ => h i N h0 pl0 M0 w0 a w Q hb hl (hs.objs hb rfl fun _ _ h => h) hQ
theorem HCode.objs {Φ : AExit → St → Prop} (h : HCode P G true c ⟨s.tmps, mkH (objsUp s.heap s.heap.n 0)⟩ Φ) : HCode P G true c s Φ :=
  fun N h0 pl0 M0 w0 a w Q hb hs hQ => h N h0 pl0 M0 w0 a w Q hb (hs.objs hb rfl fun _ _ h => h) hQ

end
end
end Go.Ev

/- What is read as data, as abstract values. -/
namespace Go.Ev
open Go

section
variable {H : Type}

/-- All there is, as it stands. -/
def memOf (w : World) : Mem := fun b => match w.heap[b]? with | some (.cells c _ _) => some c | _ => none

theorem memOf_some {w : World} {b : Nat} {c : Array Value} (h : memOf w b = some c) : ∃ t fr, w.heap[b]? = some (.cells c t fr) := by
  unfold memOf at h
  split at h
  · rename_i c' t fr q
    cases h
    exact ⟨t, fr, q⟩
  · cases h

theorem rep_start (w : World) : Rep (fun _ => none) (memOf w) AHeap.none w :=
  ⟨fun _ _ h => by simp at h, fun _ _ _ h => by simp at h, fun _ _ h => by simp at h, fun _ _ _ _ h => by simp at h, fun _ _ h => memOf_some h, fun _ _ h => by simp at h⟩

/-- An element of a list, out of its cells. -/
def elemOf (ag : Bool) : List AV → Option AV
  | xs => match ag with
    | true => some (.agg xs)
    | false => match xs with
      | [x] => some x
      | _ => none

def avList (f : DataW H → Option (List AV)) (ag : Bool) (sz : Nat) : List (DataW H) → Option (List AV)
  | [] => some []
  | d :: r => match f d with
    | some xs => match Nat.beq xs.length sz, elemOf ag xs, avList f ag sz r with
      | true, some x, some ys => some (x :: ys)
      | _, _, _ => none
    | none => none

def avFields (P : Program) (f : TypeId → DataW H → Option (List AV)) : List Field → List (DataW H) → Nat → Option (List AV)
  | [], [], _ => some []
  | x :: fs, d :: ds, off => match f x.type d with
    | some xs => match Nat.beq x.offset off && Nat.beq xs.length (P.cellsOf x.type), avFields P f fs ds (off + P.cellsOf x.type) with
      | true, some ys => some (xs ++ ys)
      | _, _ => none
    | none => none
  | _, _, _ => none

def avCells (f : DataW H → Option (List AV)) (sz : Nat) : List (DataW H) → Option (List AV)
  | [] => some []
  | d :: r => match f d with
    | some xs => match Nat.beq xs.length sz, avCells f sz r with
      | true, some ys => some (xs ++ ys)
      | _, _ => none
    | none => none

def fitLen (n : Nat) : Option (List AV) → Option (List AV)
  | some xs => match Nat.beq xs.length n with | true => some xs | false => none
  | none => none

/-- The cells of a datum of plain data. -/
def avOf (P : Program) : Nat → TypeId → DataW H → Option (List AV)
  | 0, _, _ => none
  | k + 1, t, d =>
    match P.underlying t, d with
    | some .bool, .lit (.bool b) => some [.bool b]
    | some (.int _), .lit (.int k n) => some [.int k n]
    | some .string, .lit (.string s) => some [.str s]
    | some (.slice _), .nil => some [.nils]
    | some (.slice e), .slice es _ => match isAggB P e, avList (avOf P k e) ((isAggB P e).getD false) (P.cellsOf e) es, Nat.blt 0 (P.cellsOf e) with
      | some _, some xs, true => some [.ps xs false]
      | _, _, _ => none
    | some (.struct fs), .agg ds => fitLen (P.cellsOf t) (avFields P (avOf P k) fs.toList ds 0)
    | some (.array _ e), .agg ds => fitLen (P.cellsOf t) (avCells (avOf P k e) (P.cellsOf e) ds)
    | _, _ => none

variable {enc : TypeId × Value → H} {P : Program} {w : World} {base : Nat} {spare : Nat → Bool} {held : Bool}

theorem VRels.appendL {pl : Pl} {M : Mem} {xs ys : List AV} {a b : List Value} (h : VRels pl M xs a.toArray) (k : VRels pl M ys b.toArray) : VRels pl M (xs ++ ys) (a ++ b).toArray := by
  have h1 := h.len
  have k1 := k.len
  simp only [List.size_toArray] at h1 k1
  refine ⟨by simp [h1, k1], fun j y hj => ?_⟩
  by_cases hlt : j < xs.length
  · rw [List.getElem?_append_left hlt] at hj
    have := h.at_ j y hj
    rw [Array.getD_eq_getD_getElem?] at this ⊢
    simp only [List.getElem?_toArray] at this ⊢
    rw [List.getElem?_append_left (by omega)]
    exact this
  · rw [List.getElem?_append_right (by omega)] at hj
    have := k.at_ _ y hj
    rw [Array.getD_eq_getD_getElem?] at this ⊢
    simp only [List.getElem?_toArray] at this ⊢
    rw [List.getElem?_append_right (by omega), ← h1]
    exact this

theorem cells?_at {a : Addr} {n : Nat} {cs : List Value} (h : w.cells? base a n = some cs) : cs.length = n ∧ ∀ i, i < n → w.cell? (a.add i) = cs[i]? := by
  unfold World.cells? at h
  split at h
  · have key : ∀ (l : List Nat) (cs : List Value), (l.mapM fun i => w.cell? (a.add i)) = some cs → cs.length = l.length ∧ ∀ (i j : Nat), l[i]? = some j → w.cell? (a.add j) = cs[i]? := by
      intro l
      induction l with
      | nil => intro cs h; simp at h; subst h; exact ⟨rfl, fun i j h => by simp at h⟩
      | cons x r ih =>
        intro cs h
        simp only [List.mapM_cons, Option.bind_eq_bind, Option.bind_eq_some_iff, Option.pure_def, Option.some.injEq] at h
        obtain ⟨v, h1, vs, h2, rfl⟩ := h
        obtain ⟨k1, k2⟩ := ih vs h2
        refine ⟨by simp [k1], fun i j hij => ?_⟩
        cases i with
        | zero => simp at hij; subst hij; simpa using h1
        | succ i => simpa using k2 i j (by simpa using hij)
    obtain ⟨k1, k2⟩ := key _ _ h
    exact ⟨by simpa using k1, fun i hi => k2 i i (by simp [hi])⟩
  · cases h

theorem cell?_mem {a : Addr} {v : Value} (h : w.cell? a = some v) : a.spot = none ∧ ∃ c, memOf w a.block = some c ∧ c[a.off]? = some v := by
  unfold World.cell? at h
  unfold memOf
  split at h
  · rename_i c t fr q
    split at h
    · cases h
    · rename_i hs
      exact ⟨by simpa using hs, c, by rw [q], h⟩
  · cases h

theorem fitLen_some {n : Nat} {o : Option (List AV)} {xs : List AV} (h : fitLen n o = some xs) : o = some xs ∧ xs.length = n := by
  cases o with
  | none => simp [fitLen] at h
  | some ys =>
    simp only [fitLen, beq_iff] at h
    by_cases q : ys.length = n
    · simp [q] at h; subst h; exact ⟨rfl, q⟩
    · simp [q] at h

theorem elemOf_cells {ag : Bool} {xs : List AV} {x : AV} (h : elemOf ag xs = some x) (hs : ∀ y, y ∈ xs → scalB y = true) : x.cells = xs ∧ Sc x := by
  unfold elemOf at h
  cases ag with
  | true =>
    simp at h
    subst h
    exact ⟨rfl, hs⟩
  | false =>
    simp only [] at h
    split at h
    · cases h
      have h1 := hs x (by simp)
      have e : x.cells = [x] := by cases x <;> simp_all [scalB, AV.cells]
      exact ⟨e, fun z hz => by rw [e] at hz; simp at hz; subst hz; exact h1⟩
    · cases h

theorem avFields_rel {f : TypeId → DataW H → Option (List AV)} {tr : TypeId → List Value → Option (DataW H × List MemPlace)} {pl : Pl} {M : Mem} {cs : List Value}
    (ih : ∀ t cs d p xs, f t d = some xs → tr t cs = some (d, p) → VRels pl M xs cs.toArray ∧ ∀ x, x ∈ xs → scalB x = true) :
    ∀ (fs : List Field) (ds : List (DataW H × List MemPlace)) (off : Nat) (xs : List AV), avFields P f fs (ds.map (·.1)) off = some xs → (∀ (i : Nat) (x : Field), fs[i]? = some x → tr x.type ((cs.drop x.offset).take (P.cellsOf x.type)) = ds[i]?) → off + xs.length = cs.length →
      VRels pl M xs (cs.drop off).toArray ∧ ∀ x, x ∈ xs → scalB x = true
  | [], [], off, xs, e, _, hl => by
    simp [avFields] at e
    subst e
    simp only [List.length_nil, Nat.add_zero] at hl
    refine ⟨⟨by simp; omega, fun j y h => by simp at h⟩, fun x h => by simp at h⟩
  | [], _ :: _, _, _, e, _, _ => by simp [avFields] at e
  | _ :: _, [], _, _, e, _, _ => by simp [avFields] at e
  | x :: fs, d :: ds, off, xs, e, h, hl => by
    simp only [List.map_cons, avFields] at e
    cases hf : f x.type d.1 with
    | none => rw [hf] at e; simp at e
    | some ys =>
      rw [hf] at e
      simp only [] at e
      cases hr : avFields P f fs (ds.map (·.1)) (off + P.cellsOf x.type) with
      | none => rw [hr] at e; simp at e
      | some zs =>
        rw [hr] at e
        simp only [beq_iff] at e
        by_cases q : x.offset = off ∧ ys.length = P.cellsOf x.type
        · obtain ⟨q1, q2⟩ := q
          simp [q1, q2] at e
          subst e
          simp only [List.length_append] at hl
          have h0 := h 0 x rfl
          simp only [List.getElem?_cons_zero] at h0
          obtain ⟨k1, k2⟩ := ih _ _ d.1 d.2 ys hf h0
          obtain ⟨k3, k4⟩ := avFields_rel ih fs ds (off + P.cellsOf x.type) zs hr (fun i y hy => by simpa using h (i + 1) y (by simpa using hy)) (by omega)
          rw [q1] at k1
          have e2 : cs.drop off = (cs.drop off).take (P.cellsOf x.type) ++ cs.drop (off + P.cellsOf x.type) := by
            rw [← List.drop_drop, List.take_append_drop]
          rw [e2]
          exact ⟨k1.appendL k3, fun y hy => (List.mem_append.1 hy).elim (k2 y) (k4 y)⟩
        · exfalso
          rcases Classical.not_and_iff_not_or_not.1 q with q | q <;> simp [q] at e

theorem avCells_rel {f : DataW H → Option (List AV)} {tr : List Value → Option (DataW H × List MemPlace)} {sz : Nat} {pl : Pl} {M : Mem} {cs : List Value}
    (ih : ∀ cs d p xs, f d = some xs → tr cs = some (d, p) → VRels pl M xs cs.toArray ∧ ∀ x, x ∈ xs → scalB x = true) :
    ∀ (ds : List (DataW H × List MemPlace)) (n : Nat) (xs : List AV), avCells f sz (ds.map (·.1)) = some xs → (∀ i, i < ds.length → tr ((cs.drop ((n + i) * sz)).take sz) = ds[i]?) → n * sz + xs.length = cs.length →
      VRels pl M xs (cs.drop (n * sz)).toArray ∧ ∀ x, x ∈ xs → scalB x = true
  | [], n, xs, e, _, hl => by
    simp [avCells] at e
    subst e
    simp only [List.length_nil, Nat.add_zero] at hl
    refine ⟨⟨by simp; omega, fun j y h => by simp at h⟩, fun x h => by simp at h⟩
  | d :: ds, n, xs, e, h, hl => by
    simp only [List.map_cons, avCells] at e
    cases hf : f d.1 with
    | none => rw [hf] at e; simp at e
    | some ys =>
      rw [hf] at e
      simp only [] at e
      cases hr : avCells f sz (ds.map (·.1)) with
      | none => rw [hr] at e; simp at e
      | some zs =>
        rw [hr] at e
        simp only [beq_iff] at e
        by_cases q2 : ys.length = sz
        · simp [q2] at e
          subst e
          simp only [List.length_append] at hl
          have h0 := h 0 (by simp)
          simp only [List.getElem?_cons_zero, Nat.add_zero] at h0
          obtain ⟨k1, k2⟩ := ih _ d.1 d.2 ys hf h0
          obtain ⟨k3, k4⟩ := avCells_rel ih ds (n + 1) zs hr (fun i hi => by have := h (i + 1) (by simpa using hi); rw [show n + (i + 1) = n + 1 + i by omega] at this; simpa using this) (by rw [Nat.succ_mul]; omega)
          have e2 : cs.drop (n * sz) = (cs.drop (n * sz)).take sz ++ cs.drop ((n + 1) * sz) := by
            rw [Nat.succ_mul, ← List.drop_drop, List.take_append_drop]
          rw [e2]
          exact ⟨k1.appendL k3, fun y hy => (List.mem_append.1 hy).elim (k2 y) (k4 y)⟩
        · simp [q2] at e

theorem avList_rel {f : DataW H → Option (List AV)} {ag : Bool} {sz : Nat} : ∀ (ds : List (DataW H)) (xs : List AV), avList f ag sz ds = some xs → xs.length = ds.length ∧ ∀ (i : Nat) (x : AV), xs[i]? = some x → ∃ d ys, ds[i]? = some d ∧ f d = some ys ∧ ys.length = sz ∧ elemOf ag ys = some x
  | [], xs, e => by simp [avList] at e; subst e; exact ⟨rfl, fun i x h => by simp at h⟩
  | d :: r, xs, e => by
    simp only [avList] at e
    cases hf : f d with
    | none => rw [hf] at e; simp at e
    | some ys =>
      rw [hf] at e
      simp only [beq_iff] at e
      cases he : elemOf ag ys with
      | none => rw [he] at e; simp at e
      | some x =>
        cases hr : avList f ag sz r with
        | none => rw [he, hr] at e; simp at e
        | some zs =>
          rw [he, hr] at e
          by_cases q : ys.length = sz
          · simp [q] at e
            subst e
            obtain ⟨k1, k2⟩ := avList_rel r zs hr
            refine ⟨by simp [k1], fun i y hy => ?_⟩
            cases i with
            | zero => simp at hy; subst hy; exact ⟨d, ys, rfl, hf, q, he⟩
            | succ i => simpa using k2 i y (by simpa using hy)
          · simp [q] at e

/-- What is read as data lies so. -/
theorem trod_rel : ∀ (k fuel : Nat) (t : TypeId) (cs : List Value) (d : DataW H) (p : List MemPlace) (xs : List AV), avOf P k t d = some xs → DataW.trod enc P w base spare held fuel t cs = some (d, p) →
    VRels (fun _ => none) (memOf w) xs cs.toArray ∧ ∀ x, x ∈ xs → scalB x = true
  | 0, _, _, _, _, _, _, e, _ => by simp [avOf] at e
  | k + 1, fuel, t, cs, d, p, xs, e, h => by
    have one : ∀ {x : AV} {v : Value}, VRel (fun _ => none) (memOf w) x v → scalB x = true → VRels (fun _ => none) (memOf w) [x] [v].toArray ∧ ∀ y, y ∈ [x] → scalB y = true := by
      intro x v h1 h2
      refine ⟨⟨rfl, fun j y hj => ?_⟩, fun y hy => by simp at hy; subst hy; exact h2⟩
      cases j with
      | zero => simp at hj; subst hj; simpa [Array.getD] using h1
      | succ j => simp at hj
    unfold avOf at e
    split at e
    · rename_i b ht
      obtain ⟨b', rfl, h1⟩ := DataW.trod_bool ht h
      simp at h1 e
      obtain ⟨rfl, _⟩ := h1
      subst e
      exact one (.bool _) rfl
    · rename_i k' k2 n ht
      obtain ⟨n', rfl, h1, _⟩ := DataW.trod_int ht h
      simp at h1 e
      obtain ⟨⟨rfl, rfl⟩, _⟩ := h1
      subst e
      exact one (.int _ _) rfl
    · rename_i s ht
      obtain ⟨s', rfl, h1, _⟩ := DataW.trod_string ht h
      simp at h1 e
      obtain ⟨rfl, _⟩ := h1
      subst e
      exact one (.str _) rfl
    · rename_i e' ht
      simp at e
      subst e
      rcases DataW.trod_slice ht h with ⟨rfl, _⟩ | ⟨a, len, cap, elems, rest, n, _, _, h1, _⟩
      · exact one .nils rfl
      · simp at h1
    · rename_i e' es sp ht
      rcases DataW.trod_slice ht h with ⟨_, h1⟩ | ⟨a, len, cap, elems, rest, n, rfl, rfl, h1, h2, h3, h4, h5, h6, _, _⟩
      · simp at h1
      · simp only [Prod.mk.injEq, DataW.slice.injEq] at h1
        obtain ⟨⟨rfl, rfl⟩, _⟩ := h1
        split at e
        · rename_i ag ys hag hl hsz
          simp at e
          subst e
          rw [blt_iff] at hsz
          simp only [decide_eq_true_eq] at hsz
          obtain ⟨q1, q2⟩ := avList_rel _ _ hl
          have q1 : ys.length = len := by simpa [h5] using q1
          -- each element, in its place
          have el : ∀ (i : Nat) (x : AV), ys[i]? = some x → ∃ cs : List Value, cs.length = P.cellsOf e' ∧ (∀ j, j < P.cellsOf e' → w.cell? ((a.add (i * P.cellsOf e')).add j) = cs[j]?) ∧ VRels (fun _ => none) (memOf w) x.cells cs.toArray ∧ x.cells.length = P.cellsOf e' ∧ Sc x := by
            intro i x hx
            have hi : i < len := by rw [← q1]; exact (List.getElem?_eq_some_iff.1 hx).1
            obtain ⟨d, zs, k1, k2, k3, k4⟩ := q2 i x hx
            have k5 := h6 i hi
            rw [List.getElem?_map] at k1
            cases hel : elems[i]? with
            | none => rw [hel] at k1; simp at k1
            | some y =>
              rw [hel] at k1 k5
              simp at k1
              subst k1
              simp only [Option.bind_eq_some_iff] at k5
              obtain ⟨cs, c1, c2⟩ := k5
              obtain ⟨z1, z2⟩ := cells?_at c1
              obtain ⟨r1, r2⟩ := trod_rel k n e' cs y.1 y.2 zs k2 c2
              obtain ⟨r3, r4⟩ := elemOf_cells k4 r2
              exact ⟨cs, z1, z2, by rw [r3]; exact r1, by rw [r3]; exact k3, r4⟩
          have addadd : ∀ i j : Nat, a.spot = none → (a.add i).add j = ⟨a.block, a.off + i + j, none⟩ := by
            intro i j hs
            obtain ⟨blk, off, spot⟩ := a
            simp at hs
            subst hs
            by_cases hi : i = 0 <;> by_cases hj : j = 0 <;> simp [Addr.add, hi, hj]
          have spot : ys ≠ [] → a.spot = none := by
            intro hne
            obtain ⟨x, hx⟩ : ∃ x, ys[0]? = some x := by
              cases ys with
              | nil => exact absurd rfl hne
              | cons x r => exact ⟨x, rfl⟩
            obtain ⟨cs, c1, c2, _⟩ := el 0 x hx
            have := c2 0 hsz
            rw [List.getElem?_eq_getElem (by omega)] at this
            simp only [Nat.zero_mul] at this
            have := (cell?_mem this).1
            simpa [Addr.add] using this
          have cell : ∀ (i j : Nat) (x : AV), ys[i]? = some x → j < P.cellsOf e' → ∃ c v, memOf w a.block = some c ∧ c[a.off + i * P.cellsOf e' + j]? = some v ∧ ∀ y, x.cells[j]? = some y → VRel (fun _ => none) (memOf w) y v := by
            intro i j x hx hj
            obtain ⟨cs, c1, c2, c3, c4, _⟩ := el i x hx
            have := c2 j hj
            rw [List.getElem?_eq_getElem (by omega), addadd _ _ (spot (by intro h; rw [h] at hx; simp at hx))] at this
            obtain ⟨_, c, m1, m2⟩ := cell?_mem this
            refine ⟨c, _, m1, m2, fun y hy => ?_⟩
            have := c3.at_ j y hy
            rw [Array.getD_eq_getD_getElem?] at this
            simp only [List.getElem?_toArray] at this
            rw [List.getElem?_eq_getElem (by omega)] at this
            exact this
          refine one ?_ rfl
          by_cases hne : ys = []
          · subst hne
            simp at q1
            subst q1
            exact .ps (sz := P.cellsOf e') (c := #[]) (by simp) (fun h => by cases h) (fun h => absurd rfl h) (fun x h => by simp at h) (fun i x j y h => by simp at h)
          · have hlen : 0 < ys.length := List.length_pos_iff.2 hne
            obtain ⟨x0, hx0⟩ : ∃ x, ys[ys.length - 1]? = some x := ⟨ys[ys.length - 1], by simp⟩
            obtain ⟨c, v0, m1, m2, _⟩ := cell (ys.length - 1) (P.cellsOf e' - 1) x0 hx0 (by omega)
            have hc := (Array.getElem?_eq_some_iff.1 m2).1
            have hfit : a.off + ys.length * P.cellsOf e' ≤ c.size := by
              have h1 : (ys.length - 1) * P.cellsOf e' + P.cellsOf e' = ys.length * P.cellsOf e' := by
                rw [← Nat.succ_mul]; congr 1; omega
              omega
            have := VRel.ps (pl := fun _ => none) (M := memOf w) (xs := ys) (tight := false) (a := a) (cap := cap) (sz := P.cellsOf e') (c := c) (by omega) (fun h => by cases h) (fun _ => ⟨spot hne, m1, hfit, hsz⟩)
              (fun x hx => by
                obtain ⟨i, hi⟩ := List.mem_iff_getElem?.1 hx
                obtain ⟨_, _, _, _, r1, r2⟩ := el i x hi
                exact ⟨r1, r2⟩)
              (fun i x j y hx hy => by
                obtain ⟨_, _, _, _, r1, _⟩ := el i x hx
                have hj : j < P.cellsOf e' := by rw [← r1]; exact (List.getElem?_eq_some_iff.1 hy).1
                obtain ⟨c', v, n1, n2, n3⟩ := cell i j x hx hj
                rw [m1] at n1
                cases n1
                rw [Array.getD_eq_getD_getElem?, n2]
                exact n3 y hy)
            rw [q1] at this
            exact this
        · cases e
    · rename_i fs ds ht
      obtain ⟨e1, e2⟩ := fitLen_some e
      obtain ⟨zs, n, rfl, h1, h2, h3, h4⟩ := DataW.trod_struct ht h
      simp only [Prod.mk.injEq, DataW.agg.injEq] at h1
      obtain ⟨rfl, _⟩ := h1
      have := avFields_rel (P := P) (cs := cs) (f := avOf P k) (tr := fun t cs => DataW.trod enc P w base spare held n t cs) (fun t cs d p xs a b => trod_rel k n t cs d p xs a b) fs.toList zs 0 xs e1 (fun i x hx => h4 i x (by simpa using hx)) (by omega)
      simpa using this
    · rename_i n0 e' ds ht
      obtain ⟨e1, e2⟩ := fitLen_some e
      obtain ⟨zs, n, rfl, h1, h2, h3, h4⟩ := DataW.trod_array ht h
      simp only [Prod.mk.injEq, DataW.agg.injEq] at h1
      obtain ⟨rfl, _⟩ := h1
      have := avCells_rel (cs := cs) (f := avOf P k e') (tr := fun cs => DataW.trod enc P w base spare held n e' cs) (sz := P.cellsOf e') (fun cs d p xs a b => trod_rel k n e' cs d p xs a b) zs 0 xs e1 (fun i hi => by rw [Nat.zero_add]; exact h4 i (by omega)) (by omega)
      simpa using this
    · cases e

end
end Go.Ev

/- From a call where nothing is shown to what a row says; what package-level variables hold. -/
namespace Go.Ev
open Go Go.ChangeShapes Go.RowKit

section
variable {H : Type} {enc : TypeId × Value → H} {P : Program} {G : Env} {W W' : World}

/-- The environment, out of a list. -/
def envL : List (Nat × AV) → Env
  | [] => fun _ => none
  | p :: r => fun g => match Nat.beq p.1 g with | true => some p.2 | false => envL r g

theorem envL_mem : ∀ {l : List (Nat × AV)} {g : Nat} {x : AV}, envL l g = some x → (g, x) ∈ l
  | [], g, x, h => by simp [envL] at h
  | p :: r, g, x, h => by
    simp only [envL, beq_iff] at h
    by_cases q : p.1 = g
    · simp [q] at h; subst h; subst q; simp
    · simp [q] at h; exact List.mem_cons_of_mem _ (envL_mem h)

theorem gok_of_list {l : List (Nat × AV)} {pl : Pl} {M : Mem} (h : ∀ p, p ∈ l → VRel pl M (.pptr [p.2] 0 0) (.pointer (some ⟨p.1, 0, none⟩))) : GOk (envL l) pl M :=
  fun g x hg => h (g, x) (envL_mem hg)

theorem gtop_of_list {l : List (Nat × AV)} (h : (l.all fun p => Nat.beq p.2.top 0) = true) : GTop (envL l) := fun g x hg => by
  have := List.all_eq_true.1 h _ (envL_mem hg)
  simpa [beq_iff] using this

theorem glob_rel {g : Nat} {cs : Array Value} {t : TypeId} {fr : Nat × Nat} {x : AV} (hc : W.heap[g]? = some (.cells cs t fr)) (h : VRels (fun _ => none) (memOf W) x.cells cs) (hs : Sc x) (hp : 0 < x.cells.length) :
    VRel (fun _ => none) (memOf W) (.pptr [x] 0 0) (.pointer (some ⟨g, 0, none⟩)) := by
  have hM : memOf W g = some cs := by simp [memOf, hc]
  have hl := h.len
  have := VRel.pptr (pl := fun _ => none) (M := memOf W) (xs := [x]) (i := 0) (off := 0) (a := ⟨g, 0, none⟩) (sz := x.cells.length) (c := cs) ⟨rfl, hM, by simp; omega, hp⟩
    (fun y hy => by simp at hy; subst hy; exact ⟨rfl, hs⟩) (by simp) (fun i y j z hy hz => by
      cases i with
      | zero =>
        simp at hy; subst hy
        have := h.at_ j z hz
        simpa using this
      | succ i => simp at hy)
  simpa using this

/-- A variable that is laid as plain data. -/
theorem laid_rel {laid : List (String × DataW Unit)} {n : String} {d : DataW Unit} (k : Nat) {g : Nat} {t : TypeId} {xs : List AV} {x : AV} (h : laidMet P laid W) (hm : (n, d) ∈ laid) (hg : P.globalNamed n = some g) (ht : (P.globals[g]?).map (·.type) = some t)
    (ha : avOf P k t d = some xs) {ag : Bool} (he : elemOf ag xs = some x) (hp : Nat.blt 0 xs.length = true) : VRel (fun _ => none) (memOf W) (.pptr [x] 0 0) (.pointer (some ⟨g, 0, none⟩)) := by
  obtain ⟨ps, hl, _, _⟩ := h
  have key : ∀ (l : List (String × DataW Unit)) (ps : List MemPlace), DataW.LaidVars P W l ps → (n, d) ∈ l → ∃ g t cs fuel p, P.globalNamed n = some g ∧ (P.globals[g]?).map (·.type) = some t ∧ W.var? P n = some cs ∧ DataW.trod (fun _ => ()) P W 0 (fun _ => true) false fuel t cs.toList = some (d, p) := by
    intro l
    induction l with
    | nil => intro ps _ h; simp at h
    | cons q r ih =>
      obtain ⟨n', d'⟩ := q
      intro ps h hm
      obtain ⟨g, t, cs, fuel, p, q, h1, h2, h3, h4, h5, _⟩ := h
      rcases List.mem_cons.1 hm with e | hm
      · cases e; exact ⟨g, t, cs, fuel, p, h1, h2, h3, h4⟩
      · exact ih q h5 hm
  obtain ⟨g', t', cs, fuel, p, h1, h2, h3, h4⟩ := key _ _ hl hm
  rw [hg] at h1; cases h1
  rw [ht] at h2; cases h2
  obtain ⟨r1, r2⟩ := trod_rel k fuel t cs.toList d p xs ha h4
  obtain ⟨c1, c2⟩ := elemOf_cells he r2
  have hc : ∃ t fr, W.heap[g]? = some (.cells cs t fr) := by
    unfold World.var? at h3
    rw [hg] at h3
    simp only [Option.bind_some] at h3
    split at h3
    · rename_i c t fr q; cases h3; exact ⟨t, fr, q⟩
    · cases h3
  obtain ⟨t2, fr, hc⟩ := hc
  refine glob_rel hc ?_ c2 ?_
  · rw [c1]; simpa using r1
  · rw [c1]; simpa [blt_iff] using hp

/-- A law's call, where nothing is shown: it returns true, and leaves all as it was. -/
theorem law_run {f : FuncId} {fn : Func} {c : Code} {args : List AV} {vs : Array Value} (hf : P.funcs[f]? = some fn) (hN : (fn.name == "runtime.NumGoroutine") = false) (hb : fn.body = some c)
    (hG : GOk G (fun _ => none) (memOf W)) (hv : VRels (fun _ => none) (memOf W) args vs) (h : HCall P G f args AHeap.none (fun v _ => v = .bool true)) :
    Calls P f vs W fun e W' => e = .returned (.bool true) ∧ Below W.heap.size W W' := by
  have fin : ∀ cv v h' W', v = .bool true → After (fun _ => none) (memOf W) AHeap.none W v h' cv W' → cv = .bool true ∧ Below W.heap.size W W' := by
    intro cv v h' W' e ⟨pl', M', k1, k2, k3, k4⟩
    subst e
    cases k1
    exact ⟨rfl, k3.os, k3.tape, k3.out, k3.size, fun b hb => k3.kept b hb fun id p h => by simp at h⟩
  rcases h (fun _ => none) (memOf W) W vs hG (rep_start W) hv with ⟨h1, h2⟩ | ⟨cv, w', v, h', h1, h2, h3⟩
  · exact Calls.mono h2 fun e w' ⟨cv, v, h', k1, k2, k3⟩ => by
      obtain ⟨rfl, z⟩ := fin cv v h' w' k2 k3
      exact ⟨k1, z⟩
  · exfalso
    simp only [beq_eq_false_iff_ne, ne_eq] at hN
    have : (callFunc f vs).run P W = .ok (.enter f vs) W := by simp [callFunc, hf, hN, hb]
    rw [this] at h1
    cases h1

theorem trodAll_below (hl : laidOutB P = true) (hb : Below W.heap.size W W') : ∀ {ts : List TypeId} {vs : List Value} {ds : List (DataW H)} {ps : List MemPlace}, (ts.all fun t => P.readableRec t && decide (t < P.types.size)) = true → DataW.TrodAll enc P W 0 (fun _ => true) true ts vs ds ps → (∀ x ∈ ps, x.block < W.heap.size) →
    DataW.TrodAll enc P W' 0 (fun b => decide (b < W.heap.size)) true ts vs ds ps
  | [], [], [], _, _, h, _ => h
  | t :: ts, v :: vs, d :: ds, ps, hr, h, hlt => by
    obtain ⟨p, q, h1, h2, rfl⟩ := h
    simp only [List.all_cons, Bool.and_eq_true, decide_eq_true_eq] at hr
    exact ⟨p, q, hb.trod hl hr.1.1 hr.1.2 h1 (fun x hx => hlt x (List.mem_append.2 (.inl hx))), trodAll_below hl hb hr.2 h2 (fun x hx => hlt x (List.mem_append.2 (.inr hx))), rfl⟩
  | [], _ :: _, _, _, _, h, _ => by simp [DataW.TrodAll] at h
  | [], [], _ :: _, _, _, h, _ => by simp [DataW.TrodAll] at h
  | _ :: _, [], _, _, _, h, _ => by simp [DataW.TrodAll] at h
  | _ :: _, _ :: _, [], _, _, h, _ => by simp [DataW.TrodAll] at h

/-- What a law's row says behind the call. -/
theorem law_post {f : Func} {s : ChangeSpec} {args : Array Value} {ds gs : List (DataW H)} {before : List MemPlace} {tb : TypeId} (hl : laidOutB P = true) (hr : (f.params.toList.all fun t => P.readableRec t && decide (t < P.types.size)) = true)
    (hvars : s.vars = []) (hfn : s.fn H (ds ++ gs) = { results := [.lit (.bool true)], args := ds }) (hres : f.resultTypes.toList = [tb]) (htb : P.underlying tb = some .bool)
    (hW : DataW.Whole enc P f.params.toList s.vars false W args.toList ds gs before) (hb : Below W.heap.size W W') : s.post enc P f false true false false W args (.bool true) W' := by
  have hlt := hW.lt
  have hW0 := hW
  obtain ⟨p, q, hA, hV, rfl, hz, _⟩ := hW
  have hV' := hV
  rw [hvars] at hV'
  obtain ⟨rfl, rfl⟩ := trodVars_none hV'
  simp only [List.append_nil] at hlt hz hfn
  have hsz : f.resultTypes.size = 1 := by rw [← Array.length_toList, hres]; rfl
  refine ⟨ds, [], p ++ [], [], p, [], hW0, ?_, ?_, ?_, hb.frame _, fun h => by cases h⟩
  · rw [List.append_nil, hfn, hres, hsz]
    exact trodAll_mk1 (shut_bool htb true)
  · rw [List.append_nil, hfn]
    exact trodAll_below hl hb hr hA hlt
  · rw [List.append_nil, hfn, hvars]
    exact rfl

end
end Go.Ev
