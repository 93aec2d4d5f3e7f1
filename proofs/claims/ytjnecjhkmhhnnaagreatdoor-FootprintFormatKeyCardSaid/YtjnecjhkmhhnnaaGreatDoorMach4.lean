/- An abstract machine for closed runs and for walks, proved sound against the model: part 4 of 8. No conditions. -/
import Derived.Test.YtjnecjhkmhhnnaaGreatDoorMach3
import Derived.Scope
import Derived.LoopN
import Derived.Orders

/- What a function leaves, and its results. -/
namespace Go.Ev
open Go

section
variable {P : Program} {G : Env} {pl pl' : Pl} {M M' : Mem} {h h' : AHeap} {w w' : World} {v : AV}

/-- Where a callee's step ends, its own objects dropped. -/
theorem Step.cut (hr0 : Rep pl M h w) (hs : Step h pl M w h' pl' M' w') {Md : Mem} (hmd : MExt M' Md) (hmn : ∀ b c, Md b = some c → M' b = some c ∨ ∃ id p, h.n ≤ id ∧ pl' id = some p ∧ p.blk = b) (hn : h.n ≤ h'.n) : Step h pl M w (h'.cut h.n) (cutPl pl' h.n) Md w' := by
  refine ⟨fun id p hp => ?_, fun id hid hp => ?_, fun b c hb => hmd b c (hs.mem b c hb), hs.size, hs.kept, fun id p' hp' => ?_, fun id p hp hg => ?_, fun id p hp hg => ?_, fun b c hb => ?_, hs.os, hs.tape, hs.out, hs.drawn⟩
  · obtain ⟨p', h1, h2⟩ := hs.ext id p hp
    exact ⟨p', cutPl_some.2 ⟨hr0.dom id p hp, h1⟩, h2⟩
  · have := hs.new id hid hp
    cases hc : cutPl pl' h.n id with
    | none => rfl
    | some q => rw [(cutPl_some.1 hc).2] at this; cases this
  · exact hs.blks id p' (cutPl_some.1 hp').2
  · have := hs.live id p hp hg
    cases hc : (h'.cut h.n).get id with
    | none => rfl
    | some o => rw [(AHeap.get_cut hn hc).2] at this; cases this
  · exact cutPl_some.2 ⟨hr0.dom id p hp, hs.stay id p hp hg⟩
  · rcases hmn b c hb with k | ⟨id, p, k1, k2, k3⟩
    · exact hs.memNew b c k
    · rcases hs.blks id p k2 with ⟨p0, k4, _⟩ | k4
      · have := hr0.dom id p0 k4; omega
      · exact .inr (by omega)

theorem Rep.killed (hr : Rep pl M h w) {id : Nat} {o : AObj} (hg : h.get id = some o) : Rep pl M (h.put id .dead) w := by
  have hid : id < 1000000 := (AHeap.get_some.1 hg).2.1
  refine ⟨hr.dom, fun k p o' hp hk => ?_, hr.blk, hr.inj, hr.imm, hr.sep⟩
  rcases AHeap.get_put hid hk with ⟨_, rfl⟩ | ⟨_, h2⟩
  · exact trivial
  · exact hr.obj k p o' hp h2

theorem leave_ok (pol : Nat) {v2 : AV} {h2 : AHeap} {x : Value} (hr0 : Rep pl M h w) (hr : Rep pl' M' h' w') (hv : VRel pl' M' v x) (hs : Step h pl M w h' pl' M' w') (hn : h.n ≤ h'.n) (e : leave pol h.n v h' = (v2, h2)) :
    ∃ pl2 M2, VRel pl2 M2 v2 x ∧ Rep pl2 M2 h2 w' ∧ Step h pl M w h2 pl2 M2 w' ∧ h.n ≤ h2.n := by
  have same : (v, h') = (v2, h2) → ∃ pl2 M2, VRel pl2 M2 v2 x ∧ Rep pl2 M2 h2 w' ∧ Step h pl M w h2 pl2 M2 w' ∧ h.n ≤ h2.n := by
    intro e; simp at e; obtain ⟨rfl, rfl⟩ := e; exact ⟨pl', M', hv, hr, hs, hn⟩
  have kept : cleanTo h' h.n h.n = true → keepAs v h' h.n (frz h' freezeDepth h.n v) = (v2, h2) → ∃ pl2 M2, VRel pl2 M2 v2 x ∧ Rep pl2 M2 h2 w' ∧ Step h pl M w h2 pl2 M2 w' ∧ h.n ≤ h2.n := by
    intro hc e
    unfold keepAs at e
    split at e
    · rename_i v' hf
      simp at e
      obtain ⟨rfl, rfl⟩ := e
      refine ⟨cutPl pl' h.n, dropM pl' M' w' h.n, frz_ok hr (dropM_ext _) (fun id p sz op ep xs c t fr k1 k2 k3 k4 => dropM_at hr k1 k2 k4) _ _ _ _ hv hf, hr.dropped hn (fun id o k1 k2 => cleanTo_ok h.n hc id o k1 k2), hs.cut hr0 (dropM_ext _) (fun b c hb => (dropM_some hb).imp id (fun k => k.1)) hn, Nat.le_refl _⟩
    · exact same e
  unfold leave at e
  split at e
  · exact same e
  · split at e
    · split at e
      · rename_i hc; exact kept hc e
      · exact same e
    · split at e
      · rename_i hc
        unfold leaveOwn at e
        split at e
        · rename_i id ep len cap
          split at e
          · rename_i sz op ep' xs hgo
            split at e
            · rename_i hck
              simp only [ble_iff, beq_iff, Bool.and_eq_true, decide_eq_true_eq] at hck
              obtain ⟨⟨c1, c2⟩, c3⟩ := hck
              unfold keepOwn at e
              split at e
              · rename_i ys hys
                simp at e
                obtain ⟨rfl, rfl⟩ := e
                cases hv with
                | slice hp hle hl hk ha =>
                  rename_i cap' a p
                  have ho := hr.obj id p _ hp hgo
                  cases hb : w'.heap[p.blk]? with
                  | none => rw [hb] at ho; simp [ObjRel] at ho
                  | some ob =>
                    rw [hb] at ho
                    cases ob <;> simp only [ObjRel] at ho
                    rename_i c t fr
                    obtain ⟨g1, g2, g3, g4, g5, g6, g7, g8⟩ := ho
                    have hq := ha (by omega)
                    obtain ⟨m1, m2⟩ := mapO_some hys
                    have hpm := hr.sep id p hp
                    let Md : Mem := fun b => if b = p.blk then none else dropM pl' M' w' h.n b
                    have hmd : MExt M' Md := by
                      intro b c' hb'
                      have : b ≠ p.blk := fun e => by rw [e, hpm] at hb'; cases hb'
                      simp [Md, this, dropM_ext h.n b c' hb']
                    have hid : id < 1000000 := (AHeap.get_some.1 hgo).2.1
                    have hk0 := hr.killed hgo
                    have hd : ∀ id' p' sz' op' ep' xs' c' t' fr', h.n ≤ id' → pl' id' = some p' → (h'.put id .dead).get id' = some (.row sz' op' ep' xs') → w'.heap[p'.blk]? = some (.cells c' t' fr') → Md p'.blk = some c' := by
                      intro id' p' sz' op' ep' xs' c' t' fr' k1 k2 k3 k4
                      rcases AHeap.get_put hid k3 with ⟨_, k5⟩ | ⟨k5, _⟩
                      · cases k5
                      · have : p'.blk ≠ p.blk := fun e => k5 (hr.inj id' id p' p k2 hp e)
                        simp only [Md, this, if_false]
                        exact dropM_at hr k1 k2 k4
                    let p2 : Place := ⟨p.blk, 0, p.sz, p.n, p.tot⟩
                    have hext : Ext (cutPl pl' h.n) (upd (cutPl pl' h.n) h.n p2) := fun id q hq => ⟨q, by rw [upd_other (by have := (cutPl_some.1 hq).1; omega)]; exact hq, Nat.le_refl _, fun _ => rfl⟩
                    have hcase : ∀ k q, upd (cutPl pl' h.n) h.n p2 k = some q → (k = h.n ∧ q = p2) ∨ (k < h.n ∧ pl' k = some q) := by
                      intro k q hq
                      by_cases e : k = h.n
                      · subst e; rw [upd_same] at hq; exact .inl ⟨rfl, by simpa using hq.symm⟩
                      · rw [upd_other e] at hq; exact .inr (cutPl_some.1 hq)
                    have hmem : InMem (upd (cutPl pl' h.n) h.n p2) Md c 0 sz ys := by
                      refine ⟨by rw [← m1]; exact g8.fit, fun y hy => ?_, fun i y j u hi hu => ?_⟩
                      · obtain ⟨i, hi⟩ := List.getElem?_of_mem hy
                        obtain ⟨x, k1, k2⟩ := m2 i y hi
                        have he := g8.elem x (List.mem_of_getElem? k1)
                        have hfl : flatB x = true := by
                          cases x <;> first | rfl | skip
                          exact absurd (he.2 _ (by simp [AV.cells]; rfl)) (by simp [scalB])
                        obtain ⟨f1, f2, _⟩ := frz_cells k2 hfl he.2
                        exact ⟨by rw [f1, he.1], f2⟩
                      · obtain ⟨x, k1, k2⟩ := m2 i y hi
                        have he := g8.elem x (List.mem_of_getElem? k1)
                        have hfl : flatB x = true := by
                          cases x <;> first | rfl | skip
                          exact absurd (he.2 _ (by simp [AV.cells]; rfl)) (by simp [scalB])
                        obtain ⟨_, _, f3⟩ := frz_cells k2 hfl he.2
                        obtain ⟨z, k', q1, q2⟩ := f3 j u hu
                        exact (frz_ok hk0 hmd hd k' z u _ (g8.cell i x j z k1 q1) q2).mono hext (fun _ _ h => h)
                    refine ⟨upd (cutPl pl' h.n) h.n p2, Md, ?_, ⟨?_, ?_, ?_, ?_, ?_, ?_⟩, ?_, by simp [AHeap.push, AHeap.cut]⟩
                    · refine .slice (upd_same _ _ _) (Nat.zero_le _) hl hk (fun _ => ?_)
                      obtain ⟨q1, q2, q3, q4, q5⟩ := hq
                      exact ⟨q1, q2, q3, q4, q5⟩
                    · intro k q hq
                      show k < h.n + 1
                      rcases hcase k q hq with ⟨e, _⟩ | ⟨e, _⟩ <;> omega
                    · intro k q o hq hg
                      rcases hcase k q hq with ⟨e, e2⟩ | ⟨e, e2⟩
                      · subst e; subst e2
                        rcases AHeap.get_push hg with ⟨_, k⟩ | ⟨k, _⟩
                        · subst k
                          show ObjRel _ _ _ _ w'.heap[p.blk]?
                          rw [hb]
                          exact ⟨rfl, g2, by rw [← m1]; exact g3, g4, g5, g6, fun ho => by rw [← m1]; exact g7 ho, hmem⟩
                        · exact absurd k (Nat.lt_irrefl _)
                      · rcases AHeap.get_push hg with ⟨k, _⟩ | ⟨_, k⟩
                        · exact absurd k (by show ¬ _ = h.n; omega)
                        · obtain ⟨h3, h4⟩ := AHeap.get_cut hn k
                          exact ((hr.obj _ q o e2 h4).agree (cleanTo_ok h.n hc _ o h3 h4) cutPl_ext_low hmd).mono hext (fun _ _ h => h)
                    · intro k q hq
                      rcases hcase k q hq with ⟨_, e2⟩ | ⟨_, e2⟩
                      · subst e2; exact hr.blk id p hp
                      · exact hr.blk k q e2
                    · intro k k' q q' hq hq' e
                      rcases hcase k q hq with ⟨a, b⟩ | ⟨a, b⟩ <;> rcases hcase k' q' hq' with ⟨a', b'⟩ | ⟨a', b'⟩
                      · omega
                      · subst b; have := hr.inj id k' p q' hp b' e; omega
                      · subst b'; have := hr.inj k id q p b hp e; omega
                      · exact hr.inj k k' q q' b b' e
                    · intro b c' hb'
                      by_cases e : b = p.blk
                      · simp [Md, e] at hb'
                      · simp only [Md, e, if_false] at hb'
                        rcases dropM_some hb' with hb' | ⟨_, k⟩
                        · exact hr.imm b c' hb'
                        · exact k
                    · intro k q hq
                      rcases hcase k q hq with ⟨_, e2⟩ | ⟨e1, e2⟩
                      · subst e2; simp [Md, p2]
                      · by_cases e : q.blk = p.blk
                        · simp [Md, e]
                        · simp only [Md, e, if_false]
                          cases hd2 : dropM pl' M' w' h.n q.blk with
                          | none => rfl
                          | some c' =>
                            rcases dropM_some hd2 with k1 | ⟨⟨id2, p3, k1, k2, k3⟩, _⟩
                            · rw [hr.sep k q e2] at k1; cases k1
                            · have := hr.inj k id2 q p3 e2 k2 k3.symm; omega
                    · have hs1 := hs.cut hr0 hmd (fun b c' hb' => by
                        by_cases e : b = p.blk
                        · simp [Md, e] at hb'
                        · simp only [Md, e, if_false] at hb'
                          exact (dropM_some hb').imp (fun k => k) (fun k => k.1)) hn
                      refine ⟨hs1.ext.trans hext, fun k hk hp' => ?_, hs1.mem, hs1.size, hs1.kept, fun k q hq => ?_, fun k q hq hg => ?_, fun k q hq hg => ?_, hs1.memNew, hs1.os, hs1.tape, hs1.out, hs1.drawn⟩
                      · rw [upd_other (by omega)]; exact hs1.new k hk hp'
                      · rcases hcase k q hq with ⟨e1, e2⟩ | ⟨e1, e2⟩
                        · subst e2
                          rcases hs.blks id p hp with ⟨p0, k1, _⟩ | k1
                          · have := hr0.dom id p0 k1; omega
                          · exact .inr k1
                        · exact hs.blks k q e2
                      · cases hg2 : ((h'.cut h.n).push (.row sz op 0 ys)).get k with
                        | none => rfl
                        | some o =>
                          rcases AHeap.get_push hg2 with ⟨k1, _⟩ | ⟨_, k1⟩
                          · have := hr0.dom k q hq; rw [k1] at this; exact absurd this (Nat.lt_irrefl _)
                          · have := hs1.live k q hq hg; rw [k1] at this; cases this
                      · rw [upd_other (by have := hr0.dom k q hq; omega)]; exact hs1.stay k q hq hg
              · exact same e
            · exact same e
          · exact same e
        · exact kept hc e
      · exact same e
    · exact same e

end
end Go.Ev

/- Code: what the abstract machine runs, the model runs. -/
namespace Go.Ev
open Go

/-- What a run leaves: a value and a heap that the abstract ones stand for. -/
def After (pl : Pl) (M : Mem) (h : AHeap) (w : World) (v : AV) (h' : AHeap) (cv : Value) (w' : World) : Prop :=
  ∃ pl' M', VRel pl' M' v cv ∧ Rep pl' M' h' w' ∧ Step h pl M w h' pl' M' w' ∧ h.n ≤ h'.n

/-- A call and its outcome: of a function with a body, or of one of the model's own. -/
def CallRes (P : Program) (pl : Pl) (M : Mem) (h : AHeap) (w : World) (f : FuncId) (vs : Array Value) (v : AV) (h' : AHeap) : Prop :=
  ((callFunc f vs).run P w = .ok (.enter f vs) w ∧ Calls P f vs w fun e w' => ∃ cv, e = .returned cv ∧ After pl M h w v h' cv w') ∨
  (∃ cv w', (callFunc f vs).run P w = .ok (.value cv) w' ∧ After pl M h w v h' cv w')

def CallerOK (P : Program) (G : Env) (call : Caller) : Prop :=
  ∀ (f : FuncId) (args : List AV) (h : AHeap) (v : AV) (h' : AHeap), call f args h = some (v, h') →
    ∀ (pl : Pl) (M : Mem) (w : World) (vs : Array Value), GOk G pl M → Rep pl M h w → VRels pl M args vs → CallRes P pl M h w f vs v h'

/-- The state 's' stands for where the model is, some steps behind the base. -/
structure SNow (G : Env) (N : Nat) (h0 : AHeap) (pl0 : Pl) (M0 : Mem) (w0 : World) (s : St) (a : Act) (w : World) : Prop where
  ex : ∃ pl M, GOk G pl M ∧ Rep pl M s.heap w ∧ FrRel pl M s.tmps a ∧ Step h0 pl0 M0 w0 s.heap pl M w ∧ h0.n ≤ s.heap.n
  n : s.tmps.n = N
  small : N ≤ 60000

section
variable {P : Program} {G : Env} {N : Nat} {h0 : AHeap} {pl0 : Pl} {M0 : Mem} {w0 : World} {pl : Pl} {M : Mem} {h h' : AHeap} {w w' : World} {v : AV} {A A' : Fr} {a a' : Act} {s s' : St} {call : Caller}

theorem putA_ok {dst : Option Tmp} {x : Value} (hf : FrRel pl M A a) (hv : VRel pl M v x) (hn : A.n ≤ 60000) (e : putA A dst v = some A') : FrRel pl M A' (a.put dst x) ∧ A'.n = A.n := by
  cases dst with
  | none => simp [putA] at e; subst e; exact ⟨hf, rfl⟩
  | some d =>
    simp only [putA] at e
    have hn' : A'.n = A.n := by
      unfold Fr.put at e
      split at e
      · simp at e; subst e; rfl
      · simp at e
    refine ⟨⟨by simp [Act.put, hn', hf.size], by simpa [Act.put] using hf.defers, fun t u ht => ?_⟩, hn'⟩
    obtain ⟨_, h2, h3⟩ := Fr.get_put hn e ht
    rcases h3 with ⟨rfl, rfl⟩ | ⟨h4, h5⟩
    · refine ⟨by rw [hn']; exact h2, ?_⟩
      have : (a.put (some t) x).tmps.getD t undef = x := by
        simp [Act.put, Array.getD_eq_getD_getElem?, hf.size, h2]
      rw [this]; exact hv
    · obtain ⟨k1, k2⟩ := hf.at_ t u h5
      refine ⟨by rw [hn']; exact k1, ?_⟩
      have : (a.put (some d) x).tmps.getD t undef = a.tmps.getD t undef := by
        simp [Act.put, Array.getD_eq_getD_getElem?, Array.getElem?_setIfInBounds, Ne.symm h4]
      rw [this]; exact k2

theorem undef_rel : VRel pl M undefA undef := .tuple rfl fun j y h => by simp at h

/-- A step on, behind an operation. -/
theorem SNow.after {x : Value} {dst : Option Tmp} (hs : SNow G N h0 pl0 M0 w0 s a w) {pl' : Pl} {M' : Mem}
    (hb : ∀ pl M, GOk G pl M → Rep pl M s.heap w → FrRel pl M s.tmps a → After pl M s.heap w v h' x w') (e : putA s.tmps dst v = some A') : SNow G N h0 pl0 M0 w0 ⟨A', h'⟩ (a.put dst x) w' := by
  obtain ⟨⟨pl, M, g1, g2, g3, g4, g5⟩, hn, hsm⟩ := hs
  obtain ⟨pl', M', k1, k2, k3, k4⟩ := hb pl M g1 g2 g3
  obtain ⟨q1, q2⟩ := putA_ok (g3.mono k3.ext k3.mem) k1 (by omega) e
  exact ⟨⟨pl', M', g1.mono k3.ext k3.mem, k2, q1, g4.trans k3 g5, by simpa using Nat.le_trans g5 k4⟩, by simpa [q2] using hn, hsm⟩

theorem guardR_ok {ops : Array Oper} {o : Oper} {b : Bool} (hf : FrRel pl M A a) (e : guardR A (guardDst ops o) = some b) : Region.wanted o (yielded ops a.tmps) = b := by
  unfold guardDst at e
  unfold Region.wanted
  cases hg : o.guard with
  | none => rw [hg] at e; simp [guardR] at e; simp [e]
  | some jw =>
    obtain ⟨j, want⟩ := jw
    rw [hg] at e
    simp only [] at e
    unfold yielded
    cases hd : (ops[j]?).bind (·.dst) with
    | none => rw [hd] at e; simp [guardR] at e; subst e; simp [hd]
    | some d =>
      rw [hd] at e
      simp only [guardR] at e
      cases hA : A.get d with
      | none => simp [hA] at e
      | some u =>
        rw [hA] at e
        obtain ⟨k1, k2⟩ := hf.at_ d u hA
        have hget : a.tmps[d]? = some (a.tmps.getD d undef) := getD_of (by rw [hf.size]; exact k1)
        simp only [hd, Option.bind_some, hget]
        generalize a.tmps.getD d undef = x at k2
        cases k2 <;> first | (simp at e; done) | skip
        case bool b' => cases b' <;> cases want <;> simp at e <;> subst e <;> rfl
        case tuple as vs h1 h3 =>
          cases as with
          | cons y r => simp at e
          | nil => simp at e; subst e; simp

theorem oper_ok (hc : CallerOK P G call) {ops : Array Oper} {o : Oper} {k : St → Option St} {K : Act → World → Prop} {Q : Exit → Act → World → Prop}
    (hs : SNow G N h0 pl0 M0 w0 s a w) (e : stepR call (oneOper P G ops o) s k = some s')
    (hK : ∀ s1 a1 w1, SNow G N h0 pl0 M0 w0 s1 a1 w1 → k s1 = some s' → K a1 w1) :
    if Region.wanted o (yielded ops a.tmps) then o.wp P a w K Q ∨ (o.asks P a w ∧ LetsOut Q) else K (a.put o.dst undef) w := by
  have finS : ∀ r : Option (AV × AHeap), fin s.tmps o.dst k r = some s' → ∃ v h' A', r = some (v, h') ∧ putA s.tmps o.dst v = some A' ∧ k ⟨A', h'⟩ = some s' := by
    intro r e
    unfold fin at e
    split at e
    · split at e
      · rename_i A' hA; exact ⟨_, _, A', rfl, hA, e⟩
      · simp at e
    · simp at e
  obtain ⟨pl, M, g1, g2, g3, g4, g5⟩ := hs.ex
  unfold stepR oneOper at e
  simp only [] at e
  split at e
  · rename_i hg
    rw [guardR_ok g3 hg]
    simp only [if_true]
    left
    obtain ⟨v, h', A', e1, e2, e3⟩ := finS _ e
    cases hr : (opR P G o.op).run s.tmps s.heap with
    | none => simp [hr, behind] at e1
    | some r =>
      rw [hr] at e1
      cases r with
      | val v1 h1 =>
        simp [behind] at e1
        obtain ⟨rfl, rfl⟩ := e1
        obtain ⟨dst, op, ty, pos, after, guard⟩ := o
        obtain ⟨pl', M', cv, w', nx, q1, q2, q3, q4, q5, q6⟩ := ok_all (P := P) (G := G) op pl M s.tmps s.heap v1 h1 a w dst ty pos after guard g1 g2 g3 hr
        have key : SNow G N h0 pl0 M0 w0 ⟨A', h1⟩ (a.put dst cv) w' := by
          obtain ⟨p1, p2⟩ := putA_ok (g3.mono q5.ext q5.mem) q3 (by rw [hs.n]; exact hs.small) e2
          exact ⟨⟨pl', M', g1.mono q5.ext q5.mem, q4, p1, g4.trans q5 g5, Nat.le_trans g5 q6⟩, by rw [← hs.n]; exact p2, hs.small⟩
        unfold Oper.wp
        rw [q1]
        rcases q2 with rfl | ⟨rfl, rfl⟩
        · exact hK _ _ _ key e3
        · exact hK _ _ _ key e3
      | call f args =>
        simp only [behind] at e1
        obtain ⟨vs, q1, q2⟩ := ok_call (P := P) (w := w) g1 g3 hr
        have key : ∀ cv w', After pl M s.heap w v h' cv w' → SNow G N h0 pl0 M0 w0 ⟨A', h'⟩ (a.put o.dst cv) w' := by
          intro cv w' ⟨pl', M', k1, k2, k3, k4⟩
          obtain ⟨p1, p2⟩ := putA_ok (g3.mono k3.ext k3.mem) k1 (by rw [hs.n]; exact hs.small) e2
          exact ⟨⟨pl', M', g1.mono k3.ext k3.mem, k2, p1, g4.trans k3 g5, Nat.le_trans g5 k4⟩, by rw [← hs.n]; exact p2, hs.small⟩
        unfold Oper.wp
        rw [q2]
        rcases hc f args s.heap v h' e1 pl M w vs g1 g2 q1 with ⟨k1, k2⟩ | ⟨cv, w', k1, k2⟩
        · rw [k1]
          refine Calls.mono k2 fun en w'' hh => ?_
          obtain ⟨cv, rfl, hh⟩ := hh
          exact hK _ _ _ (key cv w'' hh) e3
        · rw [k1]
          exact hK _ _ _ (key cv w' k2) e3
  · rename_i hg
    rw [guardR_ok g3 hg]
    simp only [Bool.false_eq_true, if_false]
    obtain ⟨v, h', A', e1, e2, e3⟩ := finS _ e
    simp at e1
    obtain ⟨rfl, rfl⟩ := e1
    obtain ⟨p1, p2⟩ := putA_ok g3 undef_rel (by rw [hs.n]; exact hs.small) e2
    have hn2 : A'.n = N := by rw [p2]; exact hs.n
    exact hK ⟨A', s.heap⟩ _ _ (⟨⟨pl, M, g1, g2, p1, g4, g5⟩, hn2, hs.small⟩ : SNow G N h0 pl0 M0 w0 ⟨A', s.heap⟩ _ _) e3
  · simp at e

theorem ops_ok (hc : CallerOK P G call) {ops : Array Oper} {Q : Exit → Act → World → Prop} (hQ : ∀ a1 w1, SNow G N h0 pl0 M0 w0 s' a1 w1 → Q .normal a1 w1) :
    ∀ (l : List Oper) (i : Nat) (s : St) (a : Act) (w : World), (∀ j, ops[i + j]? = l[j]?) → (runOps P G ops l).run call s = some s' → SNow G N h0 pl0 M0 w0 s a w → wpOps P ops Q (List.range' i l.length) a w
  | [], i, s, a, w, hl, e, hs => by
    simp [runOps] at e
    subst e
    exact hQ a w hs
  | o :: r, i, s, a, w, hl, e, hs => by
    simp only [runOps] at e
    have ho : ops[i]? = some o := by simpa using hl 0
    simp only [List.length_cons, List.range'_succ, wpOps, ho]
    refine oper_ok (K := wpOps P ops Q (List.range' (i + 1) r.length)) hc hs e fun s1 a1 w1 h1 h2 => ?_
    exact ops_ok hc hQ r (i + 1) s1 a1 w1 (fun j => by have := hl (j + 1); simpa [Nat.add_assoc, Nat.add_comm 1 j] using this) h2 h1

def toExit : AExit → Exit
  | .normal => .normal
  | .exit id => .exit id
  | .ret => .ret

/-- A region that draws its order. -/
def DrawOK (P : Program) (G : Env) (call : Caller) : Prop :=
  ∀ (N : Nat) (h0 : AHeap) (pl0 : Pl) (M0 : Mem) (w0 : World) (ops : Array Oper) (id : Nat) (s s' : St) (a : Act) (w : World) (Q : Exit → Act → World → Prop),
    (drawOps P G ops).run call s = some s' → SNow G N h0 pl0 M0 w0 s a w → (∀ a1 w1, SNow G N h0 pl0 M0 w0 s' a1 w1 → Q .normal a1 w1) → (Code.region id ops true).wp P Q a w

theorem norm_some {o : Option St} {e : AExit} (h : norm o = some (e, s')) : o = some s' ∧ e = .normal := by
  cases o with
  | none => simp [norm] at h
  | some s => simp [norm] at h; exact ⟨by rw [h.2], h.1.symm⟩

theorem code_ok (hc : CallerOK P G call) (hd : DrawOK P G call) (n : Nat) : ∀ (c : Code) (s : St) (e : AExit) (s' : St) (a : Act) (w : World) (Q : Exit → Act → World → Prop),
    (evCode P G n c).run call s = some (e, s') → SNow G N h0 pl0 M0 w0 s a w → (∀ a1 w1, SNow G N h0 pl0 M0 w0 s' a1 w1 → Q (toExit e) a1 w1) → c.wp P Q a w := by
  intro c
  induction c with
  | skip =>
    intro s e s' a w Q he hs hQ
    simp [evCode] at he
    obtain ⟨rfl, rfl⟩ := he
    exact wp_skip (hQ a w hs)
  | label l =>
    intro s e s' a w Q he hs hQ
    simp [evCode] at he
    obtain ⟨rfl, rfl⟩ := he
    exact wp_label (hQ a w hs)
  | region id ops draw =>
    intro s e s' a w Q he hs hQ
    cases draw with
    | false =>
      simp only [evCode] at he
      obtain ⟨h1, rfl⟩ := norm_some he
      refine wp_region ?_
      rw [List.range_eq_range']
      have hlen : ops.size = ops.toList.length := by simp
      rw [hlen]
      exact ops_ok hc hQ ops.toList 0 s a w (fun j => by simp) h1 hs
    | true =>
      simp only [evCode] at he
      obtain ⟨h1, rfl⟩ := norm_some he
      exact hd N h0 pl0 M0 w0 ops id s s' a w Q h1 hs hQ
  | seq x y ihx ihy =>
    intro s e s' a w Q he hs hQ
    simp only [evCode] at he
    cases hx : (evCode P G n x).run call s with
    | none => simp [hx, thenR] at he
    | some r =>
      obtain ⟨e1, s1⟩ := r
      rw [hx] at he
      refine wp_seq (ihx s e1 s1 a w _ hx hs fun a1 w1 h1 => ?_)
      cases e1 with
      | normal => exact ihy s1 e s' a1 w1 Q he h1 hQ
      | exit id => simp [thenR] at he; obtain ⟨rfl, rfl⟩ := he; exact hQ a1 w1 h1
      | ret => simp [thenR] at he; obtain ⟨rfl, rfl⟩ := he; exact hQ a1 w1 h1
  | cond c x y ihx ihy =>
    intro s e s' a w Q he hs hQ
    simp only [evCode] at he
    obtain ⟨pl, M, g1, g2, g3, g4, g5⟩ := hs.ex
    cases hcv : (opd G c).run s.tmps with
    | none => simp [hcv, condR] at he
    | some cv =>
      have hv := opd_ok g1 g3 hcv
      rw [hcv] at he
      cases cv <;> simp [condR] at he
      rename_i b
      generalize hq : a.eval c = x at hv
      cases hv
      cases b
      · exact wp_cond_false hq (ihy s e s' a w Q (by simpa using he) hs hQ)
      · exact wp_cond_true hq (ihx s e s' a w Q (by simpa using he) hs hQ)
  | block id b ih =>
    intro s e s' a w Q he hs hQ
    simp only [evCode] at he
    cases hx : (evCode P G n b).run call s with
    | none => simp [hx, inBlock] at he
    | some r =>
      obtain ⟨e1, s1⟩ := r
      rw [hx] at he
      refine wp_block (ih s e1 s1 a w _ hx hs fun a1 w1 h1 => ?_)
      cases e1 with
      | normal => simp [inBlock] at he; obtain ⟨rfl, rfl⟩ := he; exact hQ a1 w1 h1
      | ret => simp [inBlock] at he; obtain ⟨rfl, rfl⟩ := he; exact hQ a1 w1 h1
      | exit id' =>
        simp only [inBlock, beq_iff] at he
        by_cases hid : id' = id
        · simp [hid] at he
          obtain ⟨rfl, rfl⟩ := he
          simp only [toExit, Exit.inBlock, hid, if_true]
          exact hQ a1 w1 h1
        · simp [hid] at he
          obtain ⟨rfl, rfl⟩ := he
          simp only [toExit, Exit.inBlock, hid, if_false]
          exact hQ a1 w1 h1
  | loop b ih =>
    intro s e s' a w Q he hs hQ
    simp only [evCode] at he
    have key : ∀ (m : Nat) (s : St) (a : Act) (w : World), rounds ((evCode P G n b).run call) m s = some (e, s') → SNow G N h0 pl0 M0 w0 s a w → Code.rounds P b Q m a w := by
      intro m
      induction m with
      | zero => intro s a w h; simp [rounds] at h
      | succ m ihm =>
        intro s a w h hs
        have h : nextRound (rounds ((evCode P G n b).run call) m) ((evCode P G n b).run call s) = some (e, s') := h
        rw [rounds_succ]
        cases hx : (evCode P G n b).run call s with
        | none => simp [hx, nextRound] at h
        | some r =>
          obtain ⟨e1, s1⟩ := r
          rw [hx] at h
          refine ih s e1 s1 a w _ hx hs fun a1 w1 h1 => ?_
          cases e1 with
          | normal => exact ihm s1 a1 w1 h h1
          | exit id => simp [nextRound] at h; obtain ⟨rfl, rfl⟩ := h; exact hQ a1 w1 h1
          | ret => simp [nextRound] at h; obtain ⟨rfl, rfl⟩ := h; exact hQ a1 w1 h1
    exact wp_loop_rounds n (key n s a w he hs)
  | exit id =>
    intro s e s' a w Q he hs hQ
    simp [evCode] at he
    obtain ⟨rfl, rfl⟩ := he
    exact wp_exit (hQ a w hs)
  | scope b ih =>
    intro s e s' a w Q he hs hQ
    simp only [evCode] at he
    refine wp_scope_straight (ih s e s' a w _ he hs fun a1 w1 h1 => ?_)
    cases e <;> exact hQ a1 w1 h1
  | ret =>
    intro s e s' a w Q he hs hQ
    simp [evCode] at he
    obtain ⟨rfl, rfl⟩ := he
    exact wp_ret (hQ a w hs)
  | _ => intro s e s' a w Q he hs hQ; simp [evCode] at he

end
end Go.Ev

/- Functions: what the abstract machine answers, the model answers. -/
namespace Go.Ev
open Go

section
variable {P : Program} {G : Env} {pl : Pl} {M : Mem} {h h' : AHeap} {w w' : World} {v : AV} {A : Fr} {a : Act}

def resM (tmps : Array Value) : ResultVar → Sem Value
  | .tmp t => pure (tmps.getD t undef)
  | .cell ad t => do loadVar t (← asAddr (tmps.getD ad undef))

theorem results_eq (fn : Func) (tmps : Array Value) : results fn tmps = (do let vs ← fn.results.mapM (resM tmps); pure (if h : vs.size = 1 then vs[0] else .tuple vs)) := rfl

theorem resR_ok (hr : Rep pl M h w) (hf : FrRel pl M A a) {x : ResultVar} (e : (resR P x).run A h = some v) :
    ∃ cv, (resM a.tmps x).run P w = .ok cv w ∧ VRel pl M v cv := by
  cases x with
  | tmp t => exact ⟨_, rfl, (hf.at_ t v e).2⟩
  | cell ad t =>
    simp only [resR] at e
    split at e
    · rename_i ag n h1 h2
      simp only [] at e
      cases hx : A.get ad with
      | none => simp [hx, loadR] at e
      | some xv =>
        rw [hx] at e
        obtain ⟨ad', cv, k1, k2, k3⟩ := loadR_ok (P := P) hr (hf.at_ ad xv hx).2 h1 h2 e
        exact ⟨cv, by simp [resM, k1, asAddr, k2], k3⟩
    · simp at e

theorem resultsR_ok (hr : Rep pl M h w) (hf : FrRel pl M A a) : ∀ (l : List ResultVar) (vs : List AV), resultsR P l A h = some vs →
    ∃ cs : List Value, (l.mapM (resM a.tmps)).run P w = .ok cs w ∧ VRels pl M vs cs.toArray
  | [], vs, e => by
    simp [resultsR] at e
    subst e
    exact ⟨[], rfl, ⟨rfl, fun j y h => by simp at h⟩⟩
  | x :: r, vs, e => by
    simp only [resultsR] at e
    cases hx : (resR P x).run A h with
    | none => simp [hx] at e
    | some v =>
      cases hrr : resultsR P r A h with
      | none => simp [hx, hrr] at e
      | some vr =>
        simp [hx, hrr] at e
        subst e
        obtain ⟨cv, k1, k2⟩ := resR_ok hr hf hx
        obtain ⟨cs, q1, q2⟩ := resultsR_ok hr hf r vr hrr
        refine ⟨cv :: cs, ?_, ⟨by simp [q2.len], fun j y hj => ?_⟩⟩
        · rw [List.mapM_cons]
          simp only [Sem.run_bind, k1, Result.andThen_ok, q1, Sem.run_pure]
        · match j, hj with
          | 0, hj => simp at hj; subst hj; simpa [Array.getD] using k2
          | j + 1, hj =>
            have := q2.at_ j y (by simpa using hj)
            simpa [Array.getD_eq_getD_getElem?] using this

theorem results_ok (hr : Rep pl M h w) (hf : FrRel pl M A a) {fn : Func} (e : oneOrTuple (resultsR P fn.results.toList A h) = some v) :
    ∃ cv, (results fn a.tmps).run P w = .ok cv w ∧ VRel pl M v cv := by
  cases hl : resultsR P fn.results.toList A h with
  | none => simp [hl, oneOrTuple] at e
  | some vs =>
    rw [hl] at e
    obtain ⟨cs, q1, q2⟩ := resultsR_ok hr hf _ _ hl
    have hrun : (results fn a.tmps).run P w = .ok (if h : cs.toArray.size = 1 then cs.toArray[0] else .tuple cs.toArray) w := by
      rw [results_eq, Sem.run_bind, Array.mapM_eq_mapM_toList, Sem.run_map, q1]
      rfl
    refine ⟨_, hrun, ?_⟩
    have hlen := q2.len
    unfold oneOrTuple at e
    split at e
    · rename_i v1 q
      simp at q e
      subst q; subst e
      have hone : cs.toArray.size = 1 := by rw [← hlen]; rfl
      rw [dif_pos hone]
      have := q2.at_ 0 _ rfl
      simpa [Array.getD, hone] using this
    · rename_i vs' hne q
      simp at q e
      subst q; subst e
      have hne1 : ¬ cs.toArray.size = 1 := by
        rw [← hlen]
        intro h1
        match vs, h1, hne with
        | [x], _, hne => exact hne x rfl
      rw [dif_neg hne1]
      exact .tuple q2.len q2.at_
    · simp at e

theorem argsFr_get {n : Nat} : ∀ (l : List AV) (i : Nat) (t : Tr AV) (j : Nat) (u : AV), i + l.length ≤ 60000 → (argsFr n l i t).get j = some u → (i ≤ j ∧ l[j - i]? = some u) ∨ t.get j = some u
  | [], i, t, j, u, _, h => .inr h
  | x :: r, i, t, j, u, hl, h => by
    simp only [argsFr] at h
    simp only [List.length_cons] at hl
    rcases argsFr_get r (i + 1) _ j u (by omega) h with ⟨h1, h2⟩ | h1
    · refine .inl ⟨by omega, ?_⟩
      rw [show j - i = (j - (i + 1)) + 1 by omega]
      simpa using h2
    · rcases Tr.get_set 16 t i x j u (by omega) h1 with ⟨rfl, rfl⟩ | ⟨_, h2⟩
      · exact .inl ⟨Nat.le_refl _, by simp⟩
      · exact .inr h2

/-- A function's frame at its start. -/
theorem start_fr {args : List AV} {vs : Array Value} {n : Nat} (hv : VRels pl M args vs) (hn : args.length ≤ n) (hs : n ≤ 60000) :
    FrRel pl M ⟨n, argsFr n args 0 .nil⟩ { tmps := vs ++ Array.replicate (n - vs.size) undef, defers := [] } := by
  have hl := hv.len
  refine ⟨by simp; omega, rfl, fun t u ht => ?_⟩
  rcases argsFr_get args 0 .nil t u (by omega) ht with ⟨_, h2⟩ | h2
  · have h2 : args[t]? = some u := by simpa using h2
    have hlt : t < args.length := (List.getElem?_eq_some_iff.1 h2).1
    refine ⟨by show t < n; omega, ?_⟩
    have := hv.at_ t u h2
    have e : (vs ++ Array.replicate (n - vs.size) undef).getD t undef = vs.getD t undef := by
      simp only [Array.getD_eq_getD_getElem?]
      rw [Array.getElem?_append_left (by omega)]
    show VRel pl M u ((vs ++ Array.replicate (n - vs.size) undef).getD t undef)
    rw [e]; exact this
  · rw [Tr.get_nil] at h2; cases h2

/-- No function answers by its name alone. -/
def NoNG (P : Program) : Prop := ∀ (f : FuncId) (fn : Func), P.funcs[f]? = some fn → (fn.name == "runtime.NumGoroutine") = false

/-- The hooks say what the model does. -/
def HookOK (C : Cfg) : Prop :=
  ∀ (f : FuncId) (args : List AV) (h : AHeap) (v : AV) (h' : AHeap), C.hook f args h = some (v, h') →
    ∀ (pl : Pl) (M : Mem) (w : World) (vs : Array Value), GOk C.G pl M → Rep pl M h w → VRels pl M args vs → CallRes C.P pl M h w f vs v h'

theorem enterR_ok {C : Cfg} {call : Caller} (hN : NoNG C.P) (hc : CallerOK C.P C.G call) (hd : DrawOK C.P C.G call) {f : FuncId} {args : List AV} (e : enterR C call f args h (funcR C f) = some (v, h'))
    {vs : Array Value} (hg : GOk C.G pl M) (hr : Rep pl M h w) (hv : VRels pl M args vs) : CallRes C.P pl M h w f vs v h' := by
  unfold funcR at e
  cases hf : C.P.funcs[f]? with
  | none => simp [hf, enterR] at e
  | some fn =>
    cases hb : fn.body with
    | none => simp [hf, hb, enterR] at e
    | some c =>
      simp only [hf, hb, enterR] at e
      split at e
      · rename_i hck
        simp only [ble_iff, Bool.and_eq_true, decide_eq_true_eq] at hck
        left
        refine ⟨?_, ?_⟩
        · have hne := hN f fn hf
          simp only [beq_eq_false_iff_ne, ne_eq] at hne
          simp [callFunc, hf, hne, hb]
        · refine calls_of_wp hf hb ?_
          cases hx : (evCode C.P C.G C.rounds c).run call ⟨⟨fn.ntmps, argsFr fn.ntmps args 0 .nil⟩, h⟩ with
          | none => simp [hx, endR] at e
          | some r =>
            obtain ⟨ex, s1⟩ := r
            rw [hx] at e
            have hs0 : SNow C.G fn.ntmps h pl M w ⟨⟨fn.ntmps, argsFr fn.ntmps args 0 .nil⟩, h⟩ { tmps := vs ++ Array.replicate (fn.ntmps - vs.size) undef, defers := [] } w :=
              ⟨⟨pl, M, hg, hr, start_fr hv hck.1 hck.2, Step.refl _ _ _ _, Nat.le_refl _⟩, rfl, hck.2⟩
            refine code_ok hc hd C.rounds c _ ex s1 _ w _ hx hs0 fun a1 w1 h1 => ?_
            have fin : ∀ r, leaveR (C.pol f) h.n s1.heap (oneOrTuple (resultsR C.P fn.results.toList s1.tmps s1.heap)) = some r → r = (v, h') →
                a1.defers = [] ∧ ∃ u, (results fn a1.tmps).run C.P w1 = .ok u w1 ∧ ∃ cv, Ending.returned u = .returned cv ∧ After pl M h w v h' cv w1 := by
              intro r er hrr
              obtain ⟨pl1, M1, g1, g2, g3, g4, g5⟩ := h1.ex
              cases hres : oneOrTuple (resultsR C.P fn.results.toList s1.tmps s1.heap) with
              | none => rw [hres] at er; simp [leaveR] at er
              | some v1 =>
                rw [hres] at er
                simp only [leaveR, Option.some.injEq] at er
                obtain ⟨cv, k1, k2⟩ := results_ok g2 g3 hres
                obtain ⟨pl2, M2, q1, q2, q3, q4⟩ := leave_ok (C.pol f) hr g2 k2 g4 g5 (er.trans hrr)
                exact ⟨g3.defers, cv, k1, cv, rfl, pl2, M2, q1, q2, q3, q4⟩
            cases ex with
            | exit id => simp [endR] at e
            | normal => exact fin _ e rfl
            | ret => exact fin _ e rfl
      · simp at e

/-- The machine's answers are the model's. -/
theorem evFunc_ok {C : Cfg} (hN : NoNG C.P) (hH : HookOK C) (hd : ∀ call, CallerOK C.P C.G call → DrawOK C.P C.G call) : ∀ (k : Nat), CallerOK C.P C.G (evFunc C k)
  | 0 => by intro f args h v h' e; simp [evFunc] at e
  | k + 1 => by
    intro f args h v h' e pl M w vs hg hr hv
    have e : orEnter C (evFunc C k) f args h (C.hook f args h) = some (v, h') := e
    have ih := evFunc_ok hN hH hd k
    cases hh : C.hook f args h with
    | some r =>
      rw [hh] at e
      simp [orEnter] at e
      subst e
      exact hH f args h v h' hh pl M w vs hg hr hv
    | none =>
      rw [hh] at e
      exact enterR_ok hN ih (hd _ ih) e hg hr hv

end
end Go.Ev

/- Regions that draw their order: an operation is run on what it may see; what it leaves is merged into the rest. -/
namespace Go.Ev
open Go

def mergePl (pl pl' : Pl) (n : Nat) : Pl := fun id => if id < n then pl' id else pl id

open Classical in
noncomputable def mergeG (W : Nat → Prop) (g g' : Nat → Option AObj) : Nat → Option AObj := fun id => if W id then g' id else g id

section
variable {P : Program} {G : Env} {pl pl' : Pl} {M M' : Mem} {w w' : World}

theorem mergeG_in {W : Nat → Prop} {g g' : Nat → Option AObj} {id : Nat} (h : W id) : mergeG W g g' id = g' id := by simp [mergeG, h]
theorem mergeG_out {W : Nat → Prop} {g g' : Nat → Option AObj} {id : Nat} (h : ¬ W id) : mergeG W g g' id = g id := by simp [mergeG, h]

/-- The outcome of an operation that saw the objects of 'hv' alone, laid into the rest. -/
theorem merge {nk n0 : Nat} {g : Nat → Option AObj} {hv h' : AHeap} {W : Nat → Prop} (hr : RepF pl M nk g w) (hn0 : n0 ≤ hv.n) (hvg : ∀ id o, hv.get id = some o → g id = some o)
    (hr' : Rep pl' M' h' w') (hs : Step hv (cutPl pl hv.n) M w h' pl' M' w') (hle : hv.n ≤ h'.n) (hnk : h'.n = hv.n ∨ h'.n ≤ nk)
    (hU : ∀ id, hv.n ≤ id → id < h'.n → pl id = none)
    (W1 : ∀ id, id < hv.n → ¬ W id → hv.get id ≠ none → h'.get id = hv.get id)
    (W2 : ∀ id, W id → id < hv.n → hv.get id ≠ none) (W3 : ∀ id, W id → id < h'.n) (W4 : ∀ id, hv.n ≤ id → id < h'.n → W id) :
    RepF (mergePl pl pl' h'.n) M' nk (mergeG W g h'.get) w' ∧ StepF n0 g pl M w (mergeG W g h'.get) (mergePl pl pl' h'.n) M' w' ∧ Ext pl' (mergePl pl pl' h'.n) ∧ Ext pl (mergePl pl pl' h'.n) := by
  have ext' : Ext pl' (mergePl pl pl' h'.n) := fun id p hp => ⟨p, by simp [mergePl, hr'.dom id p hp, hp], Nat.le_refl _, fun _ => rfl⟩
  have hcase : ∀ id q, mergePl pl pl' h'.n id = some q → (id < h'.n ∧ pl' id = some q) ∨ (h'.n ≤ id ∧ pl id = some q) := by
    intro id q hq
    unfold mergePl at hq
    by_cases e : id < h'.n
    · simp [e] at hq; exact .inl ⟨e, hq⟩
    · simp [e] at hq; exact .inr ⟨by omega, hq⟩
  have hgone : ∀ id, g id = none → hv.get id = none := by
    intro id hg
    cases hv2 : hv.get id with
    | none => rfl
    | some o => rw [hvg id o hv2] at hg; cases hg
  have low : ∀ id p, pl id = some p → id < h'.n → id < hv.n := by
    intro id p hp hid
    rcases Nat.lt_or_ge id hv.n with h1 | h1
    · exact h1
    · rw [hU id h1 hid] at hp; cases hp
  have back : ∀ id q, pl' id = some q → id < hv.n → ∃ p, pl id = some p := by
    intro id q hq hid
    cases hp : pl id with
    | some p => exact ⟨p, rfl⟩
    | none =>
      have := hs.new id hid (by simp [cutPl, hp])
      rw [this] at hq; cases hq
  have ext : Ext pl (mergePl pl pl' h'.n) := by
    intro id p hp
    by_cases e : id < h'.n
    · obtain ⟨p', h1, h2⟩ := hs.ext id p (cutPl_some.2 ⟨low id p hp e, hp⟩)
      exact ⟨p', by simp [mergePl, e, h1], h2⟩
    · exact ⟨p, by simp [mergePl, e, hp], Nat.le_refl _, fun _ => rfl⟩
  -- a block of an object that the operation did not see
  have unseen : ∀ id p, pl id = some p → hv.get id = none → w'.heap[p.blk]? = w.heap[p.blk]? := by
    intro id p hp hg
    refine hs.kept p.blk (hr.blk id p hp) fun id2 p2 h2 h3 e => ?_
    have := hr.inj id2 id p2 p (cutPl_some.1 h2).2 hp e
    subst this
    exact h3 hg
  have blks : ∀ id q, mergePl pl pl' h'.n id = some q → (∃ p, pl id = some p ∧ p.blk = q.blk) ∨ w.heap.size ≤ q.blk := by
    intro id q hq
    rcases hcase id q hq with ⟨h1, h2⟩ | ⟨h1, h2⟩
    · rcases hs.blks id q h2 with ⟨p, k1, k2⟩ | k
      · exact .inl ⟨p, (cutPl_some.1 k1).2, k2⟩
      · exact .inr k
    · exact .inl ⟨q, h2, rfl⟩
  have hge : ∀ id, h'.n ≤ id → hv.get id = none := by
    intro id hid
    cases h2 : hv.get id with
    | none => rfl
    | some o => have := (AHeap.get_some.1 h2).1; omega
  refine ⟨⟨?_, ?_, ?_, ?_, hr'.imm, ?_⟩, ⟨ext, ?_, hs.mem, hs.size, ?_, blks, ?_, ?_, hs.memNew, hs.os, hs.tape, hs.out, hs.drawn⟩, ext', ext⟩
  · intro id q hq
    rcases hcase id q hq with ⟨h1, h2⟩ | ⟨h1, h2⟩
    · rcases Nat.lt_or_ge id hv.n with k | k
      · obtain ⟨p, hp⟩ := back id q h2 k
        exact hr.dom id p hp
      · rcases hnk with k2 | k2 <;> omega
    · exact hr.dom id q h2
  · intro id q o hq hg
    rcases hcase id q hq with ⟨h1, h2⟩ | ⟨h1, h2⟩
    · by_cases hW : W id
      · rw [mergeG_in hW] at hg
        exact (hr'.obj id q o h2 hg).mono ext' (fun _ _ h => h)
      · rw [mergeG_out hW] at hg
        have hlow : id < hv.n := by
          rcases Nat.lt_or_ge id hv.n with k | k
          · exact k
          · exact absurd (W4 id k h1) hW
        cases hvv : hv.get id with
        | some o1 =>
          have h3 := hvg id o1 hvv
          rw [hg] at h3
          have h4 := W1 id hlow hW (by rw [hvv]; simp)
          rw [hvv, ← h3] at h4
          exact (hr'.obj id q o h2 h4).mono ext' (fun _ _ h => h)
        | none =>
          obtain ⟨p, hp⟩ := back id q h2 hlow
          have h3 := hs.stay id p (cutPl_some.2 ⟨hlow, hp⟩) hvv
          rw [h2] at h3
          have h3 := Option.some.inj h3
          subst h3
          rw [unseen id q hp hvv]
          exact (hr.obj id q o hp hg).mono ext hs.mem
    · have hW : ¬ W id := fun hW => by have := W3 id hW; omega
      rw [mergeG_out hW] at hg
      rw [unseen id q h2 (hge id h1)]
      exact (hr.obj id q o h2 hg).mono ext hs.mem
  · intro id q hq
    rcases hcase id q hq with ⟨h1, h2⟩ | ⟨h1, h2⟩
    · exact hr'.blk id q h2
    · have := hr.blk id q h2; have := hs.size; omega
  · intro id id2 q q2 hq hq2 e
    rcases hcase id q hq with ⟨h1, h2⟩ | ⟨h1, h2⟩ <;> rcases hcase id2 q2 hq2 with ⟨k1, k2⟩ | ⟨k1, k2⟩
    · exact hr'.inj id id2 q q2 h2 k2 e
    · rcases hs.blks id q h2 with ⟨p, r1, r2⟩ | r
      · exact hr.inj id id2 p q2 (cutPl_some.1 r1).2 k2 (r2.trans e)
      · have := hr.blk id2 q2 k2; omega
    · rcases hs.blks id2 q2 k2 with ⟨p, r1, r2⟩ | r
      · exact hr.inj id id2 q p h2 (cutPl_some.1 r1).2 (e.trans r2.symm)
      · have := hr.blk id q h2; omega
    · exact hr.inj id id2 q q2 h2 k2 e
  · intro id q hq
    rcases hcase id q hq with ⟨h1, h2⟩ | ⟨h1, h2⟩
    · exact hr'.sep id q h2
    · cases hm : M' q.blk with
      | none => rfl
      | some c =>
        rcases hs.memNew _ c hm with k | k
        · rw [hr.sep id q h2] at k; cases k
        · have := hr.blk id q h2; omega
  · intro id hid hp
    have h1 : id < h'.n := by omega
    simp only [mergePl, h1, if_true]
    exact hs.new id (by omega) (by simp [cutPl, hp])
  · intro b hb hn
    refine hs.kept b hb fun id p h1 h2 => ?_
    refine hn id p (cutPl_some.1 h1).2 fun hg => h2 (hgone id hg)
  · intro id p hp hg
    by_cases hW : W id
    · exfalso
      have h1 := low id p hp (W3 id hW)
      exact W2 id hW h1 (hgone id hg)
    · rw [mergeG_out hW]; exact hg
  · intro id p hp hg
    by_cases e : id < h'.n
    · have h1 := low id p hp e
      simp only [mergePl, e, if_true]
      exact hs.stay id p (cutPl_some.2 ⟨h1, hp⟩) (hgone id hg)
    · simp [mergePl, e, hp]

end
end Go.Ev

/- Regions that draw their order: what an operation is shown; readers; sets of objects. -/
namespace Go.Ev
open Go

section
variable {P : Program} {G : Env} {pl pl' : Pl} {M M' : Mem} {h h' : AHeap} {w w' : World} {v : AV} {A F : Fr} {a : Act}

theorem rdV {o : Option AV} {v : AV} {h' : AHeap} (e : retV h o = some (.val v h')) : h' = h := by
  cases o <;> simp [retV] at e
  exact e.2.symm


/-- A reader leaves the heap as it is. -/
theorem reader_heap (op : Op) (hk : kindOf op = 0) (e : (opR P G op).run A h = some (.val v h')) : h' = h := by
  cases op
  case makeFunc f x y =>
    simp only [opR] at e
    split at e
    · simp at e; exact e.2.symm
    · simp at e
  case build t parts =>
    simp only [opR] at e
    repeat' (first | exact (fail_run e).elim | (unfold aggR at e; split at e; split at e; exact rdV e) | exact (fail_run e).elim | (split at e) | (simp only [] at e))
  case call c =>
    obtain ⟨callee, args, ts⟩ := c
    cases callee with
    | builtin b =>
      simp only [opR] at e
      unfold builtinOp at e
      repeat' (first | (simp [kindOf] at hk; done) | exact rdV e | exact (fail_run e).elim | (simp at e; done) | (split at e) | (simp only [] at e))
    | invoke r n => simp [kindOf] at hk
    | value f => simp [kindOf] at hk
  all_goals first | (simp [kindOf] at hk; done) | skip
  all_goals (simp only [opR] at e; (try unfold convOp at e); (try unfold aggR at e); (try unfold builtinOp at e); repeat' (first | exact rdV e | exact (fail_run e).elim | (simp at e; done) | (split at e) | (simp only [] at e)))

theorem lookFr_get {l : List Tmp} : ∀ {t0 : Tr AV} {x : Tmp} {u : AV}, (lookFr F l t0).get x = some u → (x ∈ l ∧ F.get x = some u) ∨ t0.get x = some u := by
  induction l with
  | nil => intro t0 x u h; exact .inr h
  | cons y r ih =>
    intro t0 x u h
    simp only [lookFr] at h
    rcases ih h with ⟨h1, h2⟩ | h1
    · exact .inl ⟨List.mem_cons_of_mem _ h1, h2⟩
    · cases hy : F.get y with
      | none => rw [hy] at h1; exact .inr h1
      | some z =>
        rw [hy, blt_iff] at h1
        by_cases hlt : y < 60000
        · simp only [hlt, decide_true] at h1
          rcases Tr.get_set 16 t0 y z x u (Nat.lt_trans (Nat.succ_lt_succ hlt) (by decide)) h1 with ⟨rfl, rfl⟩ | ⟨_, h2⟩
          · exact .inl ⟨by simp, hy⟩
          · exact .inr h2
        · simp only [hlt, decide_false] at h1
          exact .inr h1

theorem onlyT_get {ids : List Nat} : ∀ {t0 : Tr AObj} {id : Nat} {o : AObj}, (onlyT h ids t0).get id = some o → (id ∈ ids ∧ h.get id = some o) ∨ t0.get id = some o := by
  induction ids with
  | nil => intro t0 x u h; exact .inr h
  | cons y r ih =>
    intro t0 x u hx
    simp only [onlyT] at hx
    rcases ih hx with ⟨h1, h2⟩ | h1
    · exact .inl ⟨List.mem_cons_of_mem _ h1, h2⟩
    · cases hy : h.get y with
      | none => rw [hy] at h1; exact .inr h1
      | some z =>
        rw [hy] at h1
        have hlt := (AHeap.get_some.1 hy).2.1
        rcases Tr.get_set 20 t0 y z x u (by omega) h1 with ⟨rfl, rfl⟩ | ⟨_, h2⟩
        · exact .inl ⟨by simp, hy⟩
        · exact .inr h2

/-- The objects of 'ids' alone. -/
theorem only_get {ids : List Nat} {n id : Nat} {o : AObj} (e : (⟨n, onlyT h ids .nil⟩ : AHeap).get id = some o) : id ∈ ids ∧ h.get id = some o := by
  obtain ⟨_, _, h3⟩ := AHeap.get_some.1 e
  rcases onlyT_get h3 with h | h
  · exact h
  · rw [Tr.get_nil] at h; cases h

theorem topsAt_ok {n : Nat} {l : List Tmp} (e : topsAt F n l = true) : ∀ t u, t ∈ l → F.get t = some u → u.top ≤ n := by
  induction l with
  | nil => intro t u h; simp at h
  | cons x r ih =>
    simp only [topsAt, Bool.and_eq_true] at e
    intro t u ht hu
    rcases List.mem_cons.1 ht with rfl | ht
    · have := e.1; rw [hu] at this; simpa [ble_iff] using this
    · exact ih e.2 t u ht hu

theorem objsAt_ok {n : Nat} {l : List Nat} (e : objsAt h n l = true) : ∀ id o, id ∈ l → h.get id = some o → o.top ≤ n := by
  induction l with
  | nil => intro t u h; simp at h
  | cons x r ih =>
    simp only [objsAt, Bool.and_eq_true] at e
    intro t u ht hu
    rcases List.mem_cons.1 ht with rfl | ht
    · have := e.1; rw [hu] at this; simpa [ble_iff] using this
    · exact ih e.2 t u ht hu

theorem hasId_iff {id : Nat} : ∀ {l : List Nat}, hasId id l = true ↔ id ∈ l
  | [] => by simp [hasId]
  | x :: r => by
    simp only [hasId, Bool.or_eq_true, beq_iff, decide_eq_true_eq, List.mem_cons, hasId_iff (l := r)]
    exact or_congr_left ⟨Eq.symm, Eq.symm⟩

/-- The set that 'Ids' names. -/
def Ids.Holds (X : Ids) (id : Nat) : Prop := (X.all = true ∧ id < X.lo) ∨ id ∈ X.l ∨ (X.lo ≤ id ∧ id < X.hi)

theorem Ids.has_iff {X : Ids} {id : Nat} : X.has id = true ↔ X.Holds id := by
  unfold Ids.has Ids.Holds
  simp only [Bool.or_eq_true, Bool.and_eq_true, blt_iff, ble_iff, decide_eq_true_eq, hasId_iff, or_assoc]

theorem anyIn_of {X : Ids} : ∀ {l : List Nat} {id : Nat}, id ∈ l → X.Holds id → anyIn X l = true
  | x :: r, id, h, hm => by
    simp only [anyIn, Bool.or_eq_true]
    rcases List.mem_cons.1 h with rfl | h
    · exact .inl (Ids.has_iff.2 hm)
    · exact .inr (anyIn_of h hm)

theorem Ids.meets_of {X Y : Ids} {id : Nat} (hx : X.Holds id) (hy : Y.Holds id) : X.meets Y = true := by
  unfold Ids.meets
  simp only [Bool.or_eq_true, Bool.and_eq_true, blt_iff, decide_eq_true_eq]
  have hx0 := hx
  have hy0 := hy
  rcases hy with ⟨h1, h2⟩ | h1 | ⟨h1, h2⟩
  · rcases hx with ⟨k1, k2⟩ | k1 | ⟨k1, k2⟩
    · exact .inl (.inl (.inl (.inr ⟨⟨⟨k1, h1⟩, by omega⟩, by omega⟩)))
    · exact .inl (.inl (.inl (.inl (.inr (anyIn_of k1 hy0)))))
    · exact .inl (.inr ⟨⟨h1, by omega⟩, by omega⟩)
  · exact .inl (.inl (.inl (.inl (.inl (anyIn_of h1 hx0)))))
  · rcases hx with ⟨k1, k2⟩ | k1 | ⟨k1, k2⟩
    · exact .inl (.inl (.inr ⟨⟨k1, by omega⟩, by omega⟩))
    · exact .inl (.inl (.inl (.inl (.inr (anyIn_of k1 hy0)))))
    · exact .inr ⟨⟨⟨by omega, by omega⟩, by omega⟩, by omega⟩

end
end Go.Ev

/- Regions that draw their order: one operation, wherever it comes. -/
namespace Go.Ev
open Go

section
variable {P : Program} {G : Env} {pl pl' : Pl} {M M' : Mem} {h h' hv : AHeap} {w w' : World} {v : AV} {A F : Fr} {a : Act} {call : Caller}

/-- What an operation is shown lies in the world as the rest does. -/
theorem shown_rep {nk : Nat} {g : Nat → Option AObj} (hr : RepF pl M nk g w) (hvg : ∀ id o, hv.get id = some o → g id = some o) (ho : ∀ id o, hv.get id = some o → o.top ≤ hv.n) :
    Rep (cutPl pl hv.n) M hv w := by
  refine ⟨fun id p hp => (cutPl_some.1 hp).1, fun id p o hp hg => ?_, fun id p hp => hr.blk id p (cutPl_some.1 hp).2, fun id id' p p' h1 h2 => hr.inj id id' p p' (cutPl_some.1 h1).2 (cutPl_some.1 h2).2, hr.imm, fun id p hp => hr.sep id p (cutPl_some.1 hp).2⟩
  obtain ⟨h1, h2⟩ := cutPl_some.1 hp
  exact (hr.obj id p o h2 (hvg id o hg)).agree (ho id o hg) cutPl_ext_low (fun _ _ h => h)

theorem shown_val {nk n0 : Nat} {g : Nat → Option AObj} {W : Nat → Prop} {o : Oper} (hr : RepF pl M nk g w) (hn0 : n0 ≤ hv.n) (hvg : ∀ id o, hv.get id = some o → g id = some o) (ho : ∀ id o, hv.get id = some o → o.top ≤ hv.n)
    (hf : FrRel (cutPl pl hv.n) M A a) (hg : GOk G (cutPl pl hv.n) M) (e : (opR P G o.op).run A hv = some (.val v h')) (hnk : h'.n = hv.n ∨ h'.n ≤ nk)
    (hU : ∀ id, hv.n ≤ id → id < h'.n → pl id = none) (W1 : ∀ id, id < hv.n → ¬ W id → hv.get id ≠ none → h'.get id = hv.get id)
    (W2 : ∀ id, W id → id < hv.n → hv.get id ≠ none) (W3 : ∀ id, W id → id < h'.n) (W4 : ∀ id, hv.n ≤ id → id < h'.n → W id)
    {K : Act → World → Prop} {Q : Exit → Act → World → Prop}
    (hK : ∀ cv w' pl' M', RepF pl' M' nk (mergeG W g h'.get) w' → StepF n0 g pl M w (mergeG W g h'.get) pl' M' w' → VRel pl' M' v cv → Ext pl pl' → (∀ id, h'.n ≤ id → pl' id = pl id) → K (a.put o.dst cv) w') :
    o.wp P a w K Q := by
  obtain ⟨dst, op, ty, pos, after, guard⟩ := o
  obtain ⟨pl1, M1, cv, w1, nx, q1, q2, q3, q4, q5, q6⟩ := ok_all (P := P) (G := G) op (cutPl pl hv.n) M A hv v h' a w dst ty pos after guard hg (shown_rep hr hvg ho) hf e
  obtain ⟨r1, r2, r3, r4⟩ := merge hr hn0 hvg q4 q5 q6 hnk hU W1 W2 W3 W4
  have key := hK cv w1 _ M1 r1 r2 (q3.mono r3 (fun _ _ h => h)) r4 (fun id hid => by simp [mergePl, Nat.not_lt.2 hid])
  unfold Oper.wp
  rw [q1]
  rcases q2 with rfl | ⟨rfl, rfl⟩
  · exact key
  · exact key

theorem shown_call {nk n0 : Nat} {g : Nat → Option AObj} {W : Nat → Prop} {o : Oper} (hc : CallerOK P G call) (hr : RepF pl M nk g w) (hn0 : n0 ≤ hv.n) (hvg : ∀ id o, hv.get id = some o → g id = some o) (ho : ∀ id o, hv.get id = some o → o.top ≤ hv.n)
    (hf : FrRel (cutPl pl hv.n) M A a) (hg : GOk G (cutPl pl hv.n) M) {f : FuncId} {args : List AV} (e : (opR P G o.op).run A hv = some (.call f args)) (e2 : call f args hv = some (v, h')) (hnk : h'.n = hv.n ∨ h'.n ≤ nk)
    (hU : ∀ id, hv.n ≤ id → id < h'.n → pl id = none) (W1 : ∀ id, id < hv.n → ¬ W id → hv.get id ≠ none → h'.get id = hv.get id)
    (W2 : ∀ id, W id → id < hv.n → hv.get id ≠ none) (W3 : ∀ id, W id → id < h'.n) (W4 : ∀ id, hv.n ≤ id → id < h'.n → W id)
    {K : Act → World → Prop} {Q : Exit → Act → World → Prop}
    (hK : ∀ cv w' pl' M', RepF pl' M' nk (mergeG W g h'.get) w' → StepF n0 g pl M w (mergeG W g h'.get) pl' M' w' → VRel pl' M' v cv → Ext pl pl' → (∀ id, h'.n ≤ id → pl' id = pl id) → K (a.put o.dst cv) w') :
    o.wp P a w K Q := by
  obtain ⟨vs, k1, k2⟩ := ok_call (P := P) (w := w) hg hf e
  have fin : ∀ cv w1, After (cutPl pl hv.n) M hv w v h' cv w1 → K (a.put o.dst cv) w1 := by
    intro cv w1 ⟨pl1, M1, q3, q4, q5, q6⟩
    obtain ⟨r1, r2, r3, r4⟩ := merge hr hn0 hvg q4 q5 q6 hnk hU W1 W2 W3 W4
    exact hK cv w1 _ M1 r1 r2 (q3.mono r3 (fun _ _ h => h)) r4 (fun id hid => by simp [mergePl, Nat.not_lt.2 hid])
  unfold Oper.wp
  rw [k2]
  rcases hc f args hv v h' e2 _ M w vs hg (shown_rep hr hvg ho) k1 with ⟨q1, q2⟩ | ⟨cv, w1, q1, q2⟩
  · rw [q1]
    refine Calls.mono q2 fun en w'' hh => ?_
    obtain ⟨cv, rfl, hh⟩ := hh
    exact fin cv w'' hh
  · rw [q1]
    exact fin cv w1 q2

end
end Go.Ev

/- Regions that draw their order: what one operation's run there says. -/
namespace Go.Ev
open Go

section
variable {P : Program} {G : Env} {pl pl' : Pl} {M M' : Mem} {h h' h1 hv : AHeap} {w w' : World} {v : AV} {A F : Fr} {a : Act} {call : Caller}

theorem lookFr_rel {l : List Tmp} (hs : a.tmps.size = F.n) (hd : a.defers = []) (hF : ∀ t u, t ∈ l → F.get t = some u → t < F.n ∧ VRel pl M u (a.tmps.getD t undef)) : FrRel pl M ⟨F.n, lookFr F l .nil⟩ a := by
  refine ⟨hs, hd, fun t u ht => ?_⟩
  rcases lookFr_get ht with ⟨h1, h2⟩ | h1
  · exact hF t u h1 h2
  · rw [Tr.get_nil] at h1; cases h1

theorem laid_get {ids : List Nat} : ∀ {H H' : AHeap}, laid hv h' ids H = some H' → H'.n = H.n ∧ ∀ id o, H'.get id = some o → (id ∈ ids ∧ hv.get id ≠ none ∧ h'.get id = some o) ∨ ((id ∈ ids → hv.get id = none) ∧ H.get id = some o) := by
  induction ids with
  | nil => intro H H' e; simp [laid] at e; subst e; exact ⟨rfl, fun id o h => .inr ⟨fun h => by simp at h, h⟩⟩
  | cons x r ih =>
    intro H H' e
    simp only [laid] at e
    cases hx : hv.get x with
    | none =>
      rw [hx] at e
      obtain ⟨k1, k2⟩ := ih e
      refine ⟨k1, fun id o h => ?_⟩
      rcases k2 id o h with ⟨q1, q2⟩ | ⟨q1, q2⟩
      · exact .inl ⟨List.mem_cons_of_mem _ q1, q2⟩
      · refine .inr ⟨fun hm => ?_, q2⟩
        rcases List.mem_cons.1 hm with rfl | hm
        · exact hx
        · exact q1 hm
    | some y =>
      cases hy : h'.get x with
      | none => simp [hx, hy] at e
      | some o1 =>
        simp only [hx, hy] at e
        obtain ⟨k1, k2⟩ := ih e
        have hlt := (AHeap.get_some.1 hx).2.1
        refine ⟨k1, fun id o h => ?_⟩
        rcases k2 id o h with ⟨q1, q2⟩ | ⟨q1, q2⟩
        · exact .inl ⟨List.mem_cons_of_mem _ q1, q2⟩
        · rcases AHeap.get_put hlt q2 with ⟨rfl, rfl⟩ | ⟨q3, q4⟩
          · exact .inl ⟨by simp, by rw [hx]; simp, hy⟩
          · refine .inr ⟨fun hm => ?_, q4⟩
            rcases List.mem_cons.1 hm with rfl | hm
            · exact absurd rfl q3
            · exact q1 hm

theorem laidNew_get {H H' : AHeap} (hH : H.n = h.n) (e : laidNew h h' H = some H') : H'.n = h'.n ∧ h.n ≤ h'.n ∧ ∀ id o, H'.get id = some o → (id < h.n ∧ H.get id = some o) ∨ (h.n ≤ id ∧ h'.get id = some o) := by
  unfold laidNew at e
  rw [beq_iff] at e
  by_cases q : h'.n = h.n
  · simp [q] at e
    subst e
    refine ⟨by omega, by omega, fun id o h => .inl ⟨?_, h⟩⟩
    have := (AHeap.get_some.1 h).1
    omega
  · simp only [q, decide_false] at e
    rw [beq_iff] at e
    by_cases q2 : h'.n = h.n + 1
    · simp only [q2, decide_true] at e
      cases hg : h'.get h.n with
      | none => simp [hg] at e
      | some o1 =>
        simp [hg] at e
        subst e
        refine ⟨by simp [AHeap.push]; omega, by omega, fun id o h => ?_⟩
        rcases AHeap.get_push h with ⟨rfl, rfl⟩ | ⟨k1, k2⟩
        · exact .inr ⟨by omega, by rw [hH]; exact hg⟩
        · exact .inl ⟨by omega, k2⟩
    · simp [q2] at e

end
end Go.Ev

/- The comparison of heaps. -/
namespace Go.Ev
open Go

theorem boolSame {a b : Bool} (h : ((a && b) || (!a && !b)) = true) : a = b := by cases a <;> cases b <;> simp_all
theorem optB_eq {a b : Option Nat} (h : optB a b = true) : a = b := by
  cases a <;> cases b <;> simp [optB, beq_iff] at h <;> simp [h]

mutual
theorem AV.same_eq : ∀ (x y : AV), AV.same x y = true → x = y
  | .bool a, y, h => by cases y <;> simp only [AV.same, Bool.false_eq_true] at h; rw [boolSame h]
  | .int j a, y, h => by
    cases y <;> simp only [AV.same, Bool.false_eq_true, Bool.and_eq_true, kindB_eq, eqI_eq, decide_eq_true_eq, beq_iff_eq] at h
    rw [h.1, h.2]
  | .str a, y, h => by cases y <;> simp only [AV.same, Bool.false_eq_true, eqB_eq, beq_iff_eq] at h; rw [h]
  | .nilp, y, h => by cases y <;> simp only [AV.same, Bool.false_eq_true] at h; rfl
  | .nils, y, h => by cases y <;> simp only [AV.same, Bool.false_eq_true] at h; rfl
  | .nilm, y, h => by cases y <;> simp only [AV.same, Bool.false_eq_true] at h; rfl
  | .nilf, y, h => by cases y <;> simp only [AV.same, Bool.false_eq_true] at h; rfl
  | .nili, y, h => by cases y <;> simp only [AV.same, Bool.false_eq_true] at h; rfl
  | .ptr a b c d, y, h => by
    cases y <;> simp only [AV.same, Bool.false_eq_true, Bool.and_eq_true, beq_iff, decide_eq_true_eq] at h
    obtain ⟨⟨⟨h1, h2⟩, h3⟩, h4⟩ := h
    rw [h1, h2, h3, h4]
  | .map a, y, h => by cases y <;> simp only [AV.same, Bool.false_eq_true, beq_iff, decide_eq_true_eq] at h; rw [h]
  | .slice a b c d e, y, h => by
    cases y <;> simp only [AV.same, Bool.false_eq_true, Bool.and_eq_true, beq_iff, decide_eq_true_eq] at h
    obtain ⟨⟨⟨⟨h1, h2⟩, h3⟩, h4⟩, h5⟩ := h
    rw [h1, h2, h3, h4, optB_eq h5]
  | .ps xs a, y, h => by
    cases y <;> simp only [AV.same, Bool.false_eq_true, Bool.and_eq_true] at h
    rw [AV.sames_eq _ _ h.1, boolSame h.2]
  | .ls xs, y, h => by
    cases y <;> simp only [AV.same, Bool.false_eq_true] at h
    rw [AV.sames_eq _ _ h]
  | .pptr xs a b, y, h => by
    cases y <;> simp only [AV.same, Bool.false_eq_true, Bool.and_eq_true, beq_iff, decide_eq_true_eq] at h
    rw [AV.sames_eq _ _ h.1.1, h.1.2, h.2]
  | .iface t u, y, h => by
    cases y <;> simp only [AV.same, Bool.false_eq_true, Bool.and_eq_true, beq_iff, decide_eq_true_eq] at h
    rw [h.1, AV.same_eq _ _ h.2]
  | .agg a, y, h => by cases y <;> simp only [AV.same, Bool.false_eq_true] at h; rw [AV.sames_eq _ _ h]
  | .tuple a, y, h => by cases y <;> simp only [AV.same, Bool.false_eq_true] at h; rw [AV.sames_eq _ _ h]
  | .func fn a b, y, h => by
    cases fn <;> cases y <;> (try (rename_i fn2 _ _; cases fn2)) <;> simp only [AV.same, Bool.false_eq_true, Bool.and_eq_true, beq_iff, decide_eq_true_eq] at h
    rw [h.1.1, AV.sames_eq _ _ h.1.2, AV.sames_eq _ _ h.2]
theorem AV.sames_eq : ∀ (x y : List AV), AV.sames x y = true → x = y
  | [], [], _ => rfl
  | [], _ :: _, h => by simp [AV.sames] at h
  | _ :: _, [], h => by simp [AV.sames] at h
  | a :: as, b :: bs, h => by
    simp only [AV.sames, Bool.and_eq_true] at h
    rw [AV.same_eq a b h.1, AV.sames_eq as bs h.2]
end

theorem entsSame_eq : ∀ (x y : List AEnt), entsSame x y = true → x = y
  | [], [], _ => rfl
  | [], _ :: _, h => by simp [entsSame] at h
  | _ :: _, [], h => by simp [entsSame] at h
  | a :: as, b :: bs, h => by
    simp only [entsSame, Bool.and_eq_true, beq_iff, decide_eq_true_eq] at h
    obtain ⟨⟨⟨h1, h2⟩, h3⟩, h4⟩ := h
    rw [entsSame_eq as bs h4]
    cases a; cases b
    simp only at h1 h2 h3
    rw [AV.same_eq _ _ h1, AV.same_eq _ _ h2, h3]

theorem AObj.same_eq (x y : AObj) (h : AObj.same x y = true) : x = y := by
  cases x <;> cases y <;> simp only [AObj.same, Bool.false_eq_true, Bool.and_eq_true, beq_iff, decide_eq_true_eq] at h
  · rfl
  · obtain ⟨⟨⟨h1, h2⟩, h3⟩, h4⟩ := h
    rw [h1, boolSame h2, h3, AV.sames_eq _ _ h4]
  · rw [h.1, entsSame_eq _ _ h.2]

theorem sameTo_ok {h h' : AHeap} : ∀ (k : Nat), sameTo h h' k = true → ∀ id, id < k → h'.get id = h.get id
  | 0, _, id, hid => by omega
  | k + 1, e, id, hid => by
    unfold sameTo at e
    have key : sameTo h h' k = true ∧ h'.get k = h.get k := by
      cases h1 : h'.get k with
      | none =>
        cases h2 : h.get k with
        | none => rw [h1, h2] at e; exact ⟨e, rfl⟩
        | some o => rw [h1, h2] at e; simp at e
      | some o' =>
        cases h2 : h.get k with
        | none => rw [h1, h2] at e; simp at e
        | some o =>
          rw [h1, h2] at e
          simp only [] at e
          split at e
          · rename_i hs; exact ⟨e, by rw [AObj.same_eq _ _ hs]⟩
          · simp at e
    rcases Nat.lt_or_ge id k with h1 | h1
    · exact sameTo_ok k key.1 id h1
    · have : id = k := by omega
      rw [this]; exact key.2

end Go.Ev

/- Regions that draw their order: one operation there. -/
namespace Go.Ev
open Go

theorem StepF.weaken {n m : Nat} {g g' : Nat → Option AObj} {pl pl' : Pl} {M M' : Mem} {w w' : World} (h : StepF n g pl M w g' pl' M' w') (hm : m ≤ n) : StepF m g pl M w g' pl' M' w' :=
  ⟨h.ext, fun id hid hp => h.new id (by omega) hp, h.mem, h.size, h.kept, h.blks, h.live, h.stay, h.memNew, h.os, h.tape, h.out, h.drawn⟩

/-- What one operation's run in a region that draws its order says, wherever it comes. -/
structure DSpec (P : Program) (G : Env) (ops : Array Oper) (o : Oper) (look : List Tmp) (F : Fr) (h : AHeap) (v : AV) (h1 : AHeap) (r : Rec) : Prop where
  le : h.n ≤ h1.n
  keep : ∀ id o', ¬ r.wr.Holds id → h1.get id = some o' → h.get id = some o'
  new : ∀ id, h.n ≤ id → id < h1.n → r.wr.Holds id
  exec : ∀ (nk n0 : Nat) (g : Nat → Option AObj) (pl : Pl) (M : Mem) (a : Act) (w : World) (K : Act → World → Prop) (Q : Exit → Act → World → Prop), n0 ≤ h.n → h1.n ≤ nk → nk ≤ 1000000 → RepF pl M nk g w →
    (∀ id o', r.vis.Holds id → h.get id = some o' → g id = some o') → (∀ id, h.n ≤ id → id < h1.n → pl id = none) → GOk G (cutPl pl h.n) M → a.tmps.size = F.n → a.defers = [] →
    (∀ t u, t ∈ look → F.get t = some u → t < F.n ∧ VRel pl M u (a.tmps.getD t undef)) →
    (∀ cv w' pl' M' g', RepF pl' M' nk g' w' → StepF n0 g pl M w g' pl' M' w' → VRel pl' M' v cv → Ext pl pl' → (∀ id, pl id = none → (id < h.n ∨ h1.n ≤ id) → pl' id = none) →
      (∀ id, ¬ r.wr.Holds id → g' id = g id) → (∀ id o', r.wr.Holds id → h1.get id = some o' → g' id = some o') → K (a.put o.dst cv) w') →
    if Region.wanted o (yielded ops a.tmps) then o.wp P a w K Q ∨ (o.asks P a w ∧ LetsOut Q) else K (a.put o.dst undef) w

section
variable {P : Program} {G : Env} {pl pl' : Pl} {M M' : Mem} {h h' h1 hv : AHeap} {w w' : World} {v : AV} {A F : Fr} {a : Act} {call : Caller} {ops : Array Oper} {o : Oper} {d : DOper} {r : Rec}

theorem noneHolds {ids : List Nat} {id : Nat} : ¬ (⟨false, [], 0, 0⟩ : Ids).Holds id := by simp [Ids.Holds]

theorem dRead_ok (hd : d.r.op = opR P G o.op) (hk : kindOf o.op = 0) {ids : List Nat} (e : dRead F h d ids = some (v, h1, r)) (hg : guardR ⟨F.n, lookFr F d.look .nil⟩ (guardDst ops o) = some true) :
    DSpec P G ops o d.look F h v h1 r := by
  unfold dRead at e
  split at e
  · rename_i v2 h2 hrun
    simp at e
    obtain ⟨rfl, rfl, rfl⟩ := e
    rw [hd] at hrun
    have hh := reader_heap o.op hk hrun
    subst hh
    refine ⟨Nat.le_refl _, fun _ _ _ h => h, fun id h1 h2 => by omega, ?_⟩
    intro nk n0 g pl M a w K Q hn0 hnk hbig hr hvis hU hG hs hdf hF hK
    have hcut : cutPl pl 1000000 = pl := by
      funext id
      cases hp : pl id with
      | none => simp [cutPl, hp]
      | some p => exact cutPl_some.2 ⟨by have := hr.dom id p hp; omega, hp⟩
    have hvg : ∀ id o, (⟨1000000, onlyT h ids .nil⟩ : AHeap).get id = some o → g id = some o := fun id o' hh => by
      obtain ⟨k1, k2⟩ := only_get hh
      exact hvis id o' (.inr (.inl k1)) k2
    have hf : FrRel pl M ⟨F.n, lookFr F d.look .nil⟩ a := lookFr_rel hs hdf hF
    rw [guardR_ok hf hg]
    simp only [if_true]
    left
    have hG2 : GOk G pl M := hG.mono (fun id p hp => ⟨p, (cutPl_some.1 hp).2, Nat.le_refl _, fun _ => rfl⟩) (fun _ _ h => h)
    -- the objects shown name objects that lie in the world
    have rep : Rep pl M ⟨1000000, onlyT h ids .nil⟩ w :=
      ⟨fun id p hp => by have := hr.dom id p hp; show id < 1000000; omega, fun id p o' hp hh => hr.obj id p o' hp (hvg id o' hh), hr.blk, hr.inj, hr.imm, hr.sep⟩
    obtain ⟨dst, op, ty, pos, after, guard⟩ := o
    obtain ⟨pl1, M1, cv, w1, nx, q1, q2, q3, q4, q5, q6⟩ := ok_all (P := P) (G := G) op pl M _ _ v2 _ a w dst ty pos after guard hG2 rep hf hrun
    have q5' : Step ⟨1000000, onlyT h ids .nil⟩ (cutPl pl 1000000) M w ⟨1000000, onlyT h ids .nil⟩ pl1 M1 w1 := by rw [hcut]; exact q5
    obtain ⟨r1, r2, r3, r4⟩ := merge (n0 := 1000000) (W := fun _ => False) hr (Nat.le_refl _) hvg q4 q5' (Nat.le_refl _) (.inl rfl) (fun id k1 k2 => absurd k2 (by show ¬ id < 1000000; have : 1000000 ≤ id := k1; omega)) (fun _ _ _ _ => rfl) (fun _ h => h.elim) (fun _ h => h.elim) (fun id k1 k2 => absurd k2 (by show ¬ id < 1000000; have : 1000000 ≤ id := k1; omega))
    have key := hK cv w1 _ M1 _ r1 (r2.weaken (by have : h.n ≤ nk := hnk; omega)) (q3.mono r3 (fun _ _ h => h)) r4 (fun id hp hh => by
        by_cases hid : id < 1000000
        · exact r2.new id hid hp
        · simp [mergePl, hid, hp]) (fun id _ => mergeG_out (fun h => h)) (fun id o' hh => absurd hh (noneHolds (ids := [])))
    unfold Oper.wp
    rw [q1]
    rcases q2 with rfl | ⟨rfl, rfl⟩
    · exact key
    · exact key
  · simp at e

theorem cut_look (hs : a.tmps.size = F.n) (hd : a.defers = []) {l : List Tmp} {n : Nat} (ht : topsAt F n l = true) (hF : ∀ t u, t ∈ l → F.get t = some u → t < F.n ∧ VRel pl M u (a.tmps.getD t undef)) : FrRel (cutPl pl n) M ⟨F.n, lookFr F l .nil⟩ a :=
  lookFr_rel hs hd fun t u h1 h2 => ⟨(hF t u h1 h2).1, (hF t u h1 h2).2.agree (topsAt_ok ht t u h1 h2) cutPl_ext_low (fun _ _ h => h)⟩

theorem dWrite_ok (hd : d.r.op = opR P G o.op) {ids : List Nat} (e : dWrite F h d ids = some (v, h1, r)) (hg : guardR ⟨F.n, lookFr F d.look .nil⟩ (guardDst ops o) = some true) :
    DSpec P G ops o d.look F h v h1 r := by
  unfold dWrite at e
  split at e
  · rename_i hck
    simp only [Bool.and_eq_true] at hck
    obtain ⟨hck1, hck2⟩ := hck
    unfold dWriteOn dWriteEnd at e
    rw [hd] at e
    split at e
    · rename_i v2 h2 hrun
      split at e
      · rename_i H hla
        split at e
        · rename_i H1 hln
          simp at e
          obtain ⟨rfl, rfl, rfl⟩ := e
          obtain ⟨a1, a2⟩ := laid_get hla
          obtain ⟨b1, b2, b3⟩ := laidNew_get a1 hln
          refine ⟨by omega, fun id o' hno hg1 => ?_, fun id k1 k2 => .inr (.inr ⟨k1, by show id < h2.n; omega⟩), ?_⟩
          · rcases b3 id o' hg1 with ⟨k1, k2⟩ | ⟨k1, k2⟩
            · rcases a2 id o' k2 with ⟨q1, _⟩ | ⟨_, q1⟩
              · exact absurd (.inr (.inl q1)) hno
              · exact q1
            · exact absurd (.inr (.inr ⟨k1, (AHeap.get_some.1 k2).1⟩)) hno
          · intro nk n0 g pl M a w K Q hn0 hnk hbig hr hvis hU hG hs hdf hF hK
            have hf0 : FrRel pl M ⟨F.n, lookFr F d.look .nil⟩ a := lookFr_rel hs hdf hF
            rw [guardR_ok hf0 hg]
            simp only [if_true]
            left
            have hvg : ∀ id o, (⟨h.n, onlyT h ids .nil⟩ : AHeap).get id = some o → g id = some o := fun id o' hh => by
              obtain ⟨k1, k2⟩ := only_get hh
              exact hvis id o' (.inr (.inl k1)) k2
            refine shown_val (hv := ⟨h.n, onlyT h ids .nil⟩) (h' := h2) (n0 := h.n) (W := fun id => (id ∈ ids ∧ id < h.n ∧ (⟨h.n, onlyT h ids .nil⟩ : AHeap).get id ≠ none) ∨ (h.n ≤ id ∧ id < h2.n)) hr (Nat.le_refl _) hvg (fun id o' hh => objsAt_ok hck2 id o' (only_get hh).1 (only_get hh).2)
              (cut_look hs hdf hck1 hF) hG hrun (.inr (by omega)) (fun id k1 k2 => hU id k1 (by omega)) (fun id k1 k2 k3 => ?_) (fun id k1 k2 => ?_) (fun id k1 => ?_) (fun id k1 k2 => .inr ⟨k1, k2⟩) ?_
            · cases hh : (⟨h.n, onlyT h ids .nil⟩ : AHeap).get id with
              | none => exact absurd hh k3
              | some o' => exact absurd (.inl ⟨(only_get hh).1, k1, k3⟩) k2
            · rcases k1 with ⟨_, _, k⟩ | ⟨k, _⟩
              · exact k
              · exact absurd k2 (by show ¬ id < h.n; omega)
            · rcases k1 with ⟨_, k, _⟩ | ⟨_, k⟩ <;> omega
            · intro cv w' pl' M' r1 r2 r3 r4 r5
              refine hK cv w' pl' M' _ r1 (r2.weaken hn0) r3 r4 (fun id hp hh => ?_) (fun id hno => mergeG_out fun hW => ?_) (fun id o' hyes hg1 => ?_)
              · rcases hh with hh | hh
                · exact r2.new id hh hp
                · rw [r5 id (by omega)]; exact hp
              · rcases hW with ⟨k, _, _⟩ | k
                · exact hno (.inr (.inl k))
                · exact hno (.inr (.inr k))
              · rcases b3 id o' hg1 with ⟨k1, k2⟩ | ⟨k1, k2⟩
                · rcases a2 id o' k2 with ⟨q1, q2, q3⟩ | ⟨q1, q2⟩
                  · rw [mergeG_in (.inl ⟨q1, k1, q2⟩)]; exact q3
                  · rw [mergeG_out (fun hW => by
                      rcases hW with ⟨z1, _, z2⟩ | ⟨z, _⟩
                      · exact z2 (q1 z1)
                      · omega)]
                    refine hvis id o' (.inr (.inl ?_)) q2
                    rcases hyes with ⟨z, _⟩ | z | ⟨z, _⟩
                    · cases z
                    · exact z
                    · exact absurd k1 (by have : h.n ≤ id := z; omega)
                · rw [mergeG_in (.inr ⟨k1, (AHeap.get_some.1 k2).1⟩)]; exact k2
        · simp at e
      · simp at e
    · simp at e
  · simp at e

end
end Go.Ev

/- Regions that draw their order: a call there; one operation, of whatever kind. -/
namespace Go.Ev
open Go

section
variable {P : Program} {G : Env} {pl pl' : Pl} {M M' : Mem} {h h' h1 hv : AHeap} {w w' : World} {v : AV} {A F : Fr} {a : Act} {call : Caller} {ops : Array Oper} {o : Oper} {d : DOper} {r : Rec}

theorem fewerTo_ok {h h' : AHeap} : ∀ (k : Nat), fewerTo h h' k = true → ∀ id, id < k → h.get id = none → h'.get id = none
  | 0, _, id, hid, _ => by omega
  | k + 1, e, id, hid, hn => by
    unfold fewerTo at e
    have key : fewerTo h h' k = true ∧ (h.get k = none → h'.get k = none) := by
      cases h1 : h'.get k with
      | none => rw [h1] at e; exact ⟨e, fun _ => rfl⟩
      | some o' =>
        cases h2 : h.get k with
        | none => rw [h1, h2] at e; simp at e
        | some o => rw [h1, h2] at e; exact ⟨e, fun h => by cases h⟩
    rcases Nat.lt_or_ge id k with h1 | h1
    · exact fewerTo_ok k key.1 id h1 hn
    · have : id = k := by omega
      subst this; exact key.2 hn

/-- What a call has changed, out of the comparison. -/
theorem dCallEnd_some {x : Option (AV × AHeap)} (e : dCallEnd h x = some (v, h1, r)) : x = some (v, h1) ∧ h.n ≤ h1.n ∧ ∃ b, r = ⟨⟨true, [], h.n, h.n⟩, ⟨b, [], h.n, h1.n⟩⟩ ∧
    (b = false → ∀ id, id < h.n → h1.get id = h.get id) ∧ (∀ id, id < h.n → h.get id = none → h1.get id = none) := by
  unfold dCallEnd at e
  split at e
  · rename_i v2 h2
    rw [ble_iff] at e
    by_cases hle : h.n ≤ h2.n
    · simp only [hle, decide_true] at e
      split at e
      · rename_i hs
        simp [dCallRec] at e
        obtain ⟨rfl, rfl, rfl⟩ := e
        exact ⟨rfl, hle, false, rfl, fun _ => sameTo_ok h.n hs, fun id hid hn => by rw [sameTo_ok h.n hs id hid]; exact hn⟩
      · split at e
        · rename_i hf
          simp [dCallRec] at e
          obtain ⟨rfl, rfl, rfl⟩ := e
          exact ⟨rfl, hle, true, rfl, (fun hq => absurd hq (by simp)), fewerTo_ok h.n hf⟩
        · simp at e
    · simp [hle] at e
  · simp at e

theorem dCall_ok (hc : CallerOK P G call) (hd : d.r.op = opR P G o.op) (e : dCall call F h d = some (v, h1, r)) (hg : guardR ⟨F.n, lookFr F d.look .nil⟩ (guardDst ops o) = some true) :
    DSpec P G ops o d.look F h v h1 r := by
  unfold dCall at e
  split at e
  · rename_i hck
    simp only [Bool.and_eq_true] at hck
    obtain ⟨hck1, hck2⟩ := hck
    obtain ⟨e1, hle, b, rfl, hb, hfew⟩ := dCallEnd_some e
    rw [hd] at e1
    refine ⟨hle, fun id o' hno hg1 => ?_, fun id k1 k2 => .inr (.inr ⟨k1, k2⟩), ?_⟩
    · have hlt := (AHeap.get_some.1 hg1).1
      have hlow : id < h.n := by
        rcases Nat.lt_or_ge id h.n with k | k
        · exact k
        · exact absurd (.inr (.inr ⟨k, hlt⟩)) hno
      cases b with
      | true => exact absurd (.inl ⟨rfl, hlow⟩) hno
      | false => rw [← hb rfl id hlow]; exact hg1
    · intro nk n0 g pl M a w K Q hn0 hnk hbig hr hvis hU hG hs hdf hF hK
      have hf0 : FrRel pl M ⟨F.n, lookFr F d.look .nil⟩ a := lookFr_rel hs hdf hF
      rw [guardR_ok hf0 hg]
      simp only [if_true]
      left
      have hvg : ∀ id o, h.get id = some o → g id = some o := fun id o' hh => hvis id o' (.inl ⟨rfl, (AHeap.get_some.1 hh).1⟩) hh
      have ho : ∀ id o, h.get id = some o → o.top ≤ h.n := fun id o' hh => cleanTo_ok h.n hck2 id o' (AHeap.get_some.1 hh).1 hh
      have hf := cut_look (M := M) hs hdf hck1 hF
      let W : Nat → Prop := fun id => (b = true ∧ id < h.n ∧ h.get id ≠ none) ∨ (h.n ≤ id ∧ id < h1.n)
      have W1 : ∀ id, id < h.n → ¬ W id → h.get id ≠ none → h1.get id = h.get id := by
        intro id k1 k2 k3
        cases b with
        | true => exact absurd (.inl ⟨rfl, k1, k3⟩) k2
        | false => exact hb rfl id k1
      have W2 : ∀ id, W id → id < h.n → h.get id ≠ none := by
        intro id k1 k2
        rcases k1 with ⟨_, _, k⟩ | ⟨k, _⟩
        · exact k
        · omega
      have W3 : ∀ id, W id → id < h1.n := by
        intro id k1
        rcases k1 with ⟨_, k, _⟩ | ⟨_, k⟩ <;> omega
      have W4 : ∀ id, h.n ≤ id → id < h1.n → W id := fun id k1 k2 => .inr ⟨k1, k2⟩
      have hKK : ∀ cv w' pl' M', RepF pl' M' nk (mergeG W g h1.get) w' → StepF h.n g pl M w (mergeG W g h1.get) pl' M' w' → VRel pl' M' v cv → Ext pl pl' → (∀ id, h1.n ≤ id → pl' id = pl id) → K (a.put o.dst cv) w' := by
        intro cv w' pl' M' r1 r2 r3 r4 r5
        refine hK cv w' pl' M' _ r1 (r2.weaken hn0) r3 r4 (fun id hp hh => ?_) (fun id hno => mergeG_out fun hW => ?_) (fun id o' hyes hg1 => ?_)
        · rcases hh with hh | hh
          · exact r2.new id hh hp
          · rw [r5 id hh]; exact hp
        · rcases hW with ⟨k1, k2, _⟩ | k
          · exact hno (.inl ⟨k1, k2⟩)
          · exact hno (.inr (.inr k))
        · have hlt := (AHeap.get_some.1 hg1).1
          have hW : W id := by
            rcases hyes with ⟨k1, k2⟩ | k | k
            · refine .inl ⟨k1, k2, fun hn => ?_⟩
              rw [hfew id k2 hn] at hg1; cases hg1
            · simp at k
            · exact .inr k
          rw [mergeG_in hW]; exact hg1
      cases hrun : (opR P G o.op).run ⟨F.n, lookFr F d.look .nil⟩ h with
      | none => rw [hrun] at e1; simp [behind] at e1
      | some res =>
        rw [hrun] at e1
        cases res with
        | val v2 h2 =>
          simp [behind] at e1
          obtain ⟨rfl, rfl⟩ := e1
          exact shown_val hr (Nat.le_refl _) hvg ho hf hG hrun (.inr hnk) (fun id k1 k2 => hU id k1 k2) W1 W2 W3 W4 hKK
        | call f args =>
          simp only [behind] at e1
          exact shown_call hc hr (Nat.le_refl _) hvg ho hf hG hrun e1 (.inr hnk) (fun id k1 k2 => hU id k1 k2) W1 W2 W3 W4 hKK
  · simp at e

end
end Go.Ev

/- Regions that draw their order: one operation, of whatever kind. -/
namespace Go.Ev
open Go

section
variable {P : Program} {G : Env} {h h1 : AHeap} {v : AV} {F : Fr} {call : Caller} {ops : Array Oper} {o : Oper} {d : DOper} {r : Rec}

theorem dOne_ok (hc : CallerOK P G call) (hd : d.r = oneOper P G ops o) (hk : d.kind = kindOf o.op) (e : dOne call F h d = some (v, h1, r)) : DSpec P G ops o d.look F h v h1 r := by
  have hop : d.r.op = opR P G o.op := by rw [hd]; rfl
  have hgd : d.r.g = guardDst ops o := by rw [hd]; rfl
  unfold dOne at e
  rw [hgd] at e
  split at e
  · rename_i hg
    split at e
    · rename_i hk0
      exact dRead_ok hop (by rw [← hk]; exact hk0) e hg
    · exact dWrite_ok hop e hg
    · exact dCall_ok hc hop e hg
  · rename_i hg
    simp at e
    obtain ⟨rfl, rfl, rfl⟩ := e
    refine ⟨Nat.le_refl _, fun _ _ _ h => h, fun id h1 h2 => by omega, ?_⟩
    intro nk n0 g pl M a w K Q hn0 hnk hbig hr hvis hU hG hs hdf hF hK
    have hf0 : FrRel pl M ⟨F.n, lookFr F d.look .nil⟩ a := lookFr_rel hs hdf hF
    rw [guardR_ok hf0 hg]
    simp only [Bool.false_eq_true, if_false]
    exact hK undef w pl M g hr (StepF.refl _ _ _ _ _) undef_rel (Ext.refl _) (fun id h _ => h) (fun _ _ => rfl) (fun id o' hh => absurd hh (noneHolds (ids := [])))
  · simp at e

end
end Go.Ev

/- Regions that draw their order: the masks; the data of a run. -/
namespace Go.Ev
open Go

section
variable {P : Program} {G : Env} {call : Caller} {ops : Array Oper}

theorem depsOf_mem : ∀ {l : List Edge} {x : Nat}, x ∈ depsOf l ↔ ∃ e, e ∈ l ∧ Region.binds .any e = true ∧ e.on = x
  | [], x => by simp [depsOf]
  | e :: r, x => by
    simp only [depsOf]
    cases hb : Region.binds .any e with
    | true =>
      simp only [List.mem_cons, depsOf_mem (l := r)]
      constructor
      · rintro (h | ⟨e', h1, h2, h3⟩)
        · exact ⟨e, .inl rfl, hb, h.symm⟩
        · exact ⟨e', .inr h1, h2, h3⟩
      · rintro ⟨e', rfl | h1, h2, h3⟩
        · exact .inl h3.symm
        · exact .inr ⟨e', h1, h2, h3⟩
    | false =>
      simp only [List.mem_cons, depsOf_mem (l := r)]
      constructor
      · rintro ⟨e', h1, h2, h3⟩; exact ⟨e', .inr h1, h2, h3⟩
      · rintro ⟨e', rfl | h1, h2, h3⟩
        · rw [hb] at h2; cases h2
        · exact ⟨e', h1, h2, h3⟩

theorem maskOf_bit {masks : List (Nat × Nat)} {x : Nat} : ∀ {l : List Nat}, Nat.testBit (maskOf masks l) x = true → ∃ d, d ∈ l ∧ (x = d ∨ Nat.testBit (maskAt masks d) x = true)
  | [], h => by simp [maskOf] at h
  | d :: r, h => by
    simp only [maskOf] at h
    have h : Nat.testBit ((2 ^ d ||| maskAt masks d) ||| maskOf masks r) x = true := h
    rw [Nat.testBit_or, Nat.testBit_or, Bool.or_eq_true, Bool.or_eq_true, Nat.testBit_two_pow] at h
    rcases h with (h | h) | h
    · exact ⟨d, by simp, .inl (by simpa [eq_comm] using h)⟩
    · exact ⟨d, by simp, .inr h⟩
    · obtain ⟨d', h1, h2⟩ := maskOf_bit h
      exact ⟨d', by simp [h1], h2⟩

theorem belowAll_ok {i : Nat} : ∀ {l : List Nat}, belowAll i l = true → ∀ d, d ∈ l → d < i
  | [], _, d, h => by simp at h
  | x :: r, e, d, h => by
    simp only [belowAll, Bool.and_eq_true, blt_iff, decide_eq_true_eq] at e
    rcases List.mem_cons.1 h with rfl | h
    · exact e.1
    · exact belowAll_ok e.2 d h

theorem masksGo_low : ∀ (l : List Oper) (i : Nat) (acc : List (Nat × Nat)) (j : Nat), j < i → maskAt (masksGo l i acc) j = maskAt acc j
  | [], i, acc, j, h => rfl
  | o :: r, i, acc, j, h => by
    simp only [masksGo]
    rw [masksGo_low r (i + 1) _ j (by omega)]
    have : Nat.beq i j = false := by rw [beq_iff]; simp; omega
    simp [maskAt, this]

theorem masksGo_bit : ∀ (l : List Oper) (i : Nat) (acc : List (Nat × Nat)) (t : Nat) (o : Oper), l[t]? = some o → belowAll (i + t) (depsOf o.after.toList) = true → ∀ x, Nat.testBit (maskAt (masksGo l i acc) (i + t)) x = true →
    ∃ d, d ∈ depsOf o.after.toList ∧ (x = d ∨ Nat.testBit (maskAt (masksGo l i acc) d) x = true)
  | [], i, acc, t, o, h, _, _, _ => by simp at h
  | o' :: r, i, acc, 0, o, h, hb, x, hx => by
    simp at h
    subst h
    have e : maskAt (masksGo (o' :: r) i acc) i = maskOf acc (depsOf o'.after.toList) := by
      simp only [masksGo]
      rw [masksGo_low r (i + 1) _ i (by omega)]
      have : Nat.beq i i = true := by rw [beq_iff]; simp
      simp [maskAt, this]
    rw [Nat.add_zero, e] at hx
    obtain ⟨d, h1, h2⟩ := maskOf_bit hx
    refine ⟨d, h1, ?_⟩
    have hlt := belowAll_ok hb d h1
    rw [masksGo_low (o' :: r) i acc d (by omega)]
    exact h2
  | o' :: r, i, acc, t + 1, o, h, hb, x, hx => by
    simp only [masksGo] at hx ⊢
    exact masksGo_bit r (i + 1) _ t o (by simpa using h) (by rw [show i + 1 + t = i + (t + 1) by omega]; exact hb) x (by rw [show i + 1 + t = i + (t + 1) by omega]; exact hx)

/-- Closed under what comes before. -/
def Down (masks : List (Nat × Nat)) (L : Nat → Prop) : Prop := ∀ i, L i → ∀ x, Nat.testBit (maskAt masks i) x = true → L x

/-- All that comes before a ready one is listed. -/
theorem ready_mask {L : Nat → Prop} (hD : Down (masksGo ops.toList 0 []) L) {j : Nat} {o : Oper} (ho : ops[j]? = some o) (hb : belowAll j (depsOf o.after.toList) = true) (hr : ∀ d, d ∈ depsOf o.after.toList → L d) :
    ∀ x, Nat.testBit (maskAt (masksGo ops.toList 0 []) j) x = true → L x := by
  intro x hx
  have := masksGo_bit ops.toList 0 [] j o (by simpa using ho) (by rw [Nat.zero_add]; exact hb) x (by rw [Nat.zero_add]; exact hx)
  obtain ⟨d, h1, h2⟩ := this
  rcases h2 with rfl | h2
  · exact hr _ h1
  · exact hD d (hr d h1) x h2

end
end Go.Ev

/- Regions that draw their order: the data of a run in the order of the text. -/
namespace Go.Ev
open Go

/-- Do two clash? -/
def Clash (q r : Rec) : Prop := ∃ id, (q.wr.Holds id ∧ r.vis.Holds id) ∨ (r.wr.Holds id ∧ q.vis.Holds id) ∨ (q.wr.Holds id ∧ r.wr.Holds id)

/-- The run's data: heaps, frames, values, records. -/
structure RunData (call : Caller) (ds : List DOper) (k : Nat) (hs : Nat → AHeap) (Fs : Nat → Fr) (vs : Nat → AV) (rc : Nat → Rec) : Prop where
  one : ∀ j d, ds[j]? = some d → dOne call (Fs (k + j)) (hs (k + j)) d = some (vs (k + j), hs (k + j + 1), rc (k + j))
  put : ∀ j d, ds[j]? = some d → putA (Fs (k + j)) d.r.dst (vs (k + j)) = some (Fs (k + j + 1))
  ord : ∀ j d, ds[j]? = some d → ∀ i, i < k + j → Clash (rc i) (rc (k + j)) → Nat.testBit d.mask i = true

section
variable {call : Caller}

theorem noClash_ok {mask : Nat} {r : Rec} : ∀ {qs : List Rec}, noClash mask r qs qs.length = true → ∀ i q, qs[i]? = some q → Clash q r → Nat.testBit mask (qs.length - 1 - i) = true
  | [], _, i, q, h, _ => by simp at h
  | p :: ps, e, i, q, h, hc => by
    simp only [noClash, List.length_cons, Nat.add_sub_cancel, Bool.and_eq_true, Bool.or_eq_true, Bool.not_eq_true'] at e
    match i, h with
    | 0, h =>
      simp at h
      subst h
      rcases e.1 with e1 | e1
      · exfalso
        simp only [Bool.or_eq_false_iff] at e1
        obtain ⟨⟨e2, e3⟩, e4⟩ := e1
        obtain ⟨id, hc | hc | hc⟩ := hc
        · rw [Ids.meets_of hc.1 hc.2] at e2; cases e2
        · rw [Ids.meets_of hc.1 hc.2] at e3; cases e3
        · rw [Ids.meets_of hc.1 hc.2] at e4; cases e4
      · simpa using e1
    | i + 1, h =>
      have := noClash_ok e.2 i q (by simpa using h) hc
      simp only [List.length_cons]
      rw [show ps.length + 1 - 1 - (i + 1) = ps.length - 1 - i by omega]
      exact this

/-- The records so far, the last first. -/
def recsTo (rc : Nat → Rec) : Nat → List Rec
  | 0 => []
  | k + 1 => rc k :: recsTo rc k

theorem recsTo_len (rc : Nat → Rec) : ∀ k, (recsTo rc k).length = k
  | 0 => rfl
  | k + 1 => by simp [recsTo, recsTo_len rc k]

theorem recsTo_get (rc : Nat → Rec) : ∀ (k i : Nat), i < k → (recsTo rc k)[k - 1 - i]? = some (rc i)
  | 0, i, h => by omega
  | k + 1, i, h => by
    simp only [recsTo]
    rcases Nat.lt_or_ge i k with h1 | h1
    · rw [show k + 1 - 1 - i = (k - 1 - i) + 1 by omega]
      simpa using recsTo_get rc k i h1
    · have : i = k := by omega
      subst this
      simp

theorem recsTo_congr {rc rc' : Nat → Rec} : ∀ {k : Nat}, (∀ i, i < k → rc i = rc' i) → recsTo rc k = recsTo rc' k
  | 0, _ => rfl
  | k + 1, h => by simp only [recsTo]; rw [h k (by omega), recsTo_congr (fun i hi => h i (by omega))]

theorem drawGo_data : ∀ (ds : List DOper) (k : Nat) (hs0 : Nat → AHeap) (Fs0 : Nat → Fr) (vs0 : Nat → AV) (rc0 : Nat → Rec) (s' : St), (drawGo ds).run call (Fs0 k) (hs0 k) (recsTo rc0 k) k = some s' →
    ∃ hs Fs vs rc, (∀ i, i ≤ k → hs i = hs0 i ∧ Fs i = Fs0 i) ∧ (∀ i, i < k → vs i = vs0 i ∧ rc i = rc0 i) ∧ RunData call ds k hs Fs vs rc ∧ s' = ⟨Fs (k + ds.length), hs (k + ds.length)⟩
  | [], k, hs0, Fs0, vs0, rc0, s', e => by
    simp [drawGo] at e
    refine ⟨hs0, Fs0, vs0, rc0, fun _ _ => ⟨rfl, rfl⟩, fun _ _ => ⟨rfl, rfl⟩, ⟨fun j d h => by simp at h, fun j d h => by simp at h, fun j d h => by simp at h⟩, by simpa using e.symm⟩
  | d :: r, k, hs0, Fs0, vs0, rc0, s', e => by
    simp only [drawGo] at e
    cases ho : dOne call (Fs0 k) (hs0 k) d with
    | none => rw [ho] at e; simp [dNext] at e
    | some res =>
      obtain ⟨v, h', rec⟩ := res
      rw [ho] at e
      simp only [dNext] at e
      split at e
      · rename_i hcl
        cases hp : putA (Fs0 k) d.r.dst v with
        | none => rw [hp] at e; simp at e
        | some F' =>
          rw [hp] at e
          simp only [] at e
          let hs1 : Nat → AHeap := fun i => if i = k + 1 then h' else hs0 i
          let Fs1 : Nat → Fr := fun i => if i = k + 1 then F' else Fs0 i
          let vs1 : Nat → AV := fun i => if i = k then v else vs0 i
          let rc1 : Nat → Rec := fun i => if i = k then rec else rc0 i
          have er : rec :: recsTo rc0 k = recsTo rc1 (k + 1) := by
            simp only [recsTo]
            congr 1
            · simp [rc1]
            · exact recsTo_congr fun i hi => by simp [rc1, show i ≠ k by omega]
          have e2 : (drawGo r).run call (Fs1 (k + 1)) (hs1 (k + 1)) (recsTo rc1 (k + 1)) (k + 1) = some s' := by
            rw [← er]; simpa [Fs1, hs1] using e
          obtain ⟨hs, Fs, vs, rc, a1, a2, a3, a4⟩ := drawGo_data r (k + 1) hs1 Fs1 vs1 rc1 s' e2
          have hk := a1 k (by omega)
          have hk1 := a1 (k + 1) (by omega)
          have hvk := a2 k (by omega)
          simp only [hs1, Fs1, show ¬ k = k + 1 by omega, if_false, if_true] at hk hk1
          simp only [vs1, rc1, if_true] at hvk
          refine ⟨hs, Fs, vs, rc, fun i hi => ?_, fun i hi => ?_, ⟨fun j d' hj => ?_, fun j d' hj => ?_, fun j d' hj i hi hc => ?_⟩, ?_⟩
          · have := a1 i (by omega)
            simpa [hs1, Fs1, show i ≠ k + 1 by omega] using this
          · have := a2 i (by omega)
            simpa [vs1, rc1, show i ≠ k by omega] using this
          · match j, hj with
            | 0, hj =>
              simp at hj; subst hj
              simp only [Nat.add_zero]
              rw [hk.1, hk.2, hk1.1, hvk.1, hvk.2]; exact ho
            | j + 1, hj =>
              have := a3.one j d' (by simpa using hj)
              rw [show k + (j + 1) = k + 1 + j by omega]; exact this
          · match j, hj with
            | 0, hj =>
              simp at hj; subst hj
              simp only [Nat.add_zero]
              rw [hk.2, hk1.2, hvk.1]; exact hp
            | j + 1, hj =>
              have := a3.put j d' (by simpa using hj)
              rw [show k + (j + 1) = k + 1 + j by omega]; exact this
          · match j, hj with
            | 0, hj =>
              simp at hj; subst hj
              simp only [Nat.add_zero] at hi hc
              have hri := (a2 i (by omega)).2
              simp only [rc1, show ¬ i = k by omega, if_false] at hri
              rw [hri, hvk.2] at hc
              have hcl' : noClash d.mask rec (recsTo rc0 k) (recsTo rc0 k).length = true := by rw [recsTo_len]; exact hcl
              have := noClash_ok hcl' (k - 1 - i) (rc0 i) (recsTo_get rc0 k i hi) hc
              rw [recsTo_len, show k - 1 - (k - 1 - i) = i by omega] at this
              exact this
            | j + 1, hj =>
              rw [show k + (j + 1) = k + 1 + j by omega] at hi hc
              exact a3.ord j d' (by simpa using hj) i hi hc
          · rw [a4]; simp only [List.length_cons]; rw [show k + 1 + r.length = k + (r.length + 1) by omega]
      · simp at e

end
end Go.Ev

/- Regions that draw their order: what holds wherever a run of it has come to. -/
namespace Go.Ev
open Go

/-- A region, made ready, and the data of its run in the order of the text. -/
structure Reg (P : Program) (G : Env) (call : Caller) (ops : Array Oper) (N : Nat) (hs : Nat → AHeap) (Fs : Nat → Fr) (vs : Nat → AV) (rc : Nat → Rec) : Prop where
  small : N ≤ 60000
  n0 : (Fs 0).n = N
  t0 : ∀ t u, (Fs 0).get t = some u → t < N
  big : (hs ops.size).n ≤ 1000000
  spec : ∀ j o, ops[j]? = some o → DSpec P G ops o (o.looksAt ops) (Fs j) (hs j) (vs j) (hs (j + 1)) (rc j)
  put : ∀ j o, ops[j]? = some o → putA (Fs j) o.dst (vs j) = some (Fs (j + 1))
  ord : ∀ j o, ops[j]? = some o → ∀ i, i < j → Clash (rc i) (rc j) → Nat.testBit (maskAt (masksGo ops.toList 0 []) j) i = true
  below : ∀ j o, ops[j]? = some o → belowAll j (depsOf o.after.toList) = true
  looks : ∀ j o, ops[j]? = some o → looksOk (masksGo ops.toList 0 []) (depsOf o.after.toList) (o.looksAt ops) j ops.toList 0 = true
  dsts : ∀ (i j : Nat) (oi oj : Oper) (t : Tmp), ops[i]? = some oi → ops[j]? = some oj → oi.dst = some t → oj.dst = some t → i = j

/-- Where a run has come to: 'L': what is listed. -/
structure Inv (P : Program) (G : Env) (ops : Array Oper) (N : Nat) (hs : Nat → AHeap) (Fs : Nat → Fr) (vs : Nat → AV) (rc : Nat → Rec) (h0 : AHeap) (pl0 : Pl) (M0 : Mem) (w0 : World) (L : Nat → Prop) (a : Act) (w : World) : Prop where
  down : Down (masksGo ops.toList 0 []) L
  ex : ∃ pl M g, RepF pl M (hs ops.size).n g w ∧ StepF h0.n h0.get pl0 M0 w0 g pl M w ∧
    (∀ id m o, m ≤ ops.size → (∀ i, i < m → (rc i).wr.Holds id → L i) → (∀ i, m ≤ i → i < ops.size → (rc i).wr.Holds id → ¬ L i) → (hs m).get id = some o → g id = some o) ∧
    (∀ j, j < ops.size → ¬ L j → ∀ id, (hs j).n ≤ id → id < (hs (j + 1)).n → pl id = none) ∧
    (∀ j o t, ops[j]? = some o → L j → o.dst = some t → VRel pl M (vs j) (a.tmps.getD t undef)) ∧
    (∀ t u, (∀ i o, ops[i]? = some o → L i → o.dst ≠ some t) → (Fs 0).get t = some u → VRel pl M u (a.tmps.getD t undef))
  size : a.tmps.size = N
  defers : a.defers = []

section
variable {P : Program} {G : Env} {call : Caller} {ops : Array Oper} {N : Nat} {hs : Nat → AHeap} {Fs : Nat → Fr} {vs : Nat → AV} {rc : Nat → Rec} {h0 : AHeap} {pl0 : Pl} {M0 : Mem} {w0 : World} {L : Nat → Prop} {a : Act} {w : World}

theorem Reg.get {j : Nat} (hj : j < ops.size) : ∃ o, ops[j]? = some o := ⟨ops[j], by simp [hj]⟩

theorem Reg.mono (R : Reg P G call ops N hs Fs vs rc) {i : Nat} : ∀ {j : Nat}, i ≤ j → j ≤ ops.size → (hs i).n ≤ (hs j).n
  | 0, h, _ => by have : i = 0 := by omega
                  subst this; exact Nat.le_refl _
  | j + 1, h, hj => by
    rcases Nat.lt_or_ge i (j + 1) with h1 | h1
    · obtain ⟨o, ho⟩ := Reg.get (ops := ops) (j := j) (by omega)
      exact Nat.le_trans (R.mono (by omega) (by omega)) (R.spec j o ho).le
    · have : i = j + 1 := by omega
      subst this; exact Nat.le_refl _

theorem putA_n {A A' : Fr} {dst : Option Tmp} {v : AV} (e : putA A dst v = some A') : A'.n = A.n := by
  cases dst with
  | none => simp [putA] at e; rw [e]
  | some d =>
    simp only [putA, Fr.put] at e
    split at e
    · simp at e; rw [← e]
    · simp at e

theorem Reg.frame (R : Reg P G call ops N hs Fs vs rc) : ∀ (j : Nat), j ≤ ops.size → (Fs j).n = N ∧ ∀ t u, (Fs j).get t = some u → t < N ∧
    ((∃ i o, i < j ∧ ops[i]? = some o ∧ o.dst = some t ∧ u = vs i) ∨ ((∀ i o, i < j → ops[i]? = some o → o.dst ≠ some t) ∧ (Fs 0).get t = some u))
  | 0, _ => ⟨R.n0, fun t u h => ⟨R.t0 t u h, .inr ⟨fun i o h => by omega, h⟩⟩⟩
  | j + 1, hj => by
    obtain ⟨o, ho⟩ := Reg.get (ops := ops) (j := j) (by omega)
    obtain ⟨k1, k2⟩ := R.frame j (by omega)
    have hp := R.put j o ho
    refine ⟨by rw [putA_n hp]; exact k1, fun t u ht => ?_⟩
    have old : (Fs j).get t = some u → o.dst ≠ some t → t < N ∧ ((∃ i o, i < j + 1 ∧ ops[i]? = some o ∧ o.dst = some t ∧ u = vs i) ∨ ((∀ i o, i < j + 1 → ops[i]? = some o → o.dst ≠ some t) ∧ (Fs 0).get t = some u)) := by
      intro h1 h2
      obtain ⟨q1, q2⟩ := k2 t u h1
      refine ⟨q1, ?_⟩
      rcases q2 with ⟨i, o', z1, z2⟩ | ⟨z1, z2⟩
      · exact .inl ⟨i, o', by omega, z2⟩
      · refine .inr ⟨fun i o' hi ho' => ?_, z2⟩
        rcases Nat.lt_or_ge i j with hlt | hge
        · exact z1 i o' hlt ho'
        · have : i = j := by omega
          subst this
          rw [ho] at ho'
          cases ho'
          exact h2
    cases hd : o.dst with
    | none =>
      rw [hd] at hp
      simp [putA] at hp
      rw [← hp] at ht
      exact old ht (by rw [hd]; simp)
    | some d =>
      rw [hd] at hp
      simp only [putA] at hp
      obtain ⟨_, q2, q3⟩ := Fr.get_put (by rw [k1]; exact R.small) hp ht
      rcases q3 with ⟨rfl, rfl⟩ | ⟨q4, q5⟩
      · exact ⟨by rw [← k1]; exact q2, .inl ⟨j, o, by omega, ho, hd, rfl⟩⟩
      · exact old q5 (by rw [hd]; intro h; exact q4 (Option.some.inj h).symm)

end
end Go.Ev

/- Regions that draw their order: one more operation, whichever comes. -/
namespace Go.Ev
open Go

section
variable {P : Program} {G : Env} {call : Caller} {ops : Array Oper} {N : Nat} {hs : Nat → AHeap} {Fs : Nat → Fr} {vs : Nat → AV} {rc : Nat → Rec} {h0 : AHeap} {pl0 : Pl} {M0 : Mem} {w0 : World} {L : Nat → Prop} {a : Act} {w : World}

/-- What comes before 'i' lies before it in the text too. -/
theorem Reg.maskLow (R : Reg P G call ops N hs Fs vs rc) : ∀ (n i : Nat), i < n → ∀ o, ops[i]? = some o → ∀ x, Nat.testBit (maskAt (masksGo ops.toList 0 []) i) x = true → x < i
  | 0, i, h, _, _, _, _ => by omega
  | n + 1, i, h, o, ho, x, hx => by
    have hb := R.below i o ho
    have := masksGo_bit ops.toList 0 [] i o (by simpa using ho) (by rw [Nat.zero_add]; exact hb) x (by rw [Nat.zero_add]; exact hx)
    obtain ⟨d, h1, h2⟩ := this
    have hd := belowAll_ok hb d h1
    rcases h2 with rfl | h2
    · exact hd
    · have hlt := (Array.getElem?_eq_some_iff.1 ho).1
      obtain ⟨o', ho'⟩ := Reg.get (ops := ops) (j := d) (by omega)
      have := R.maskLow n d (by omega) o' ho' x h2
      omega

theorem looksOk_at {masks : List (Nat × Nat)} {deps : List Nat} {look : List Tmp} {j : Nat} : ∀ {l : List Oper} {i : Nat}, looksOk masks deps look j l i = true → ∀ (k : Nat) (o : Oper) (t : Tmp), l[k]? = some o → o.dst = some t → t ∈ look →
    i + k = j ∨ i + k ∈ deps ∨ Nat.testBit (maskAt masks (i + k)) j = true
  | [], _, _, k, o, t, h, _, _ => by simp at h
  | o' :: r, i, e, k, o, t, h, hd, ht => by
    simp only [looksOk, Bool.and_eq_true] at e
    match k, h with
    | 0, h =>
      simp at h
      subst h
      have e1 := e.1
      rw [hd] at e1
      simp only [Bool.or_eq_true, Bool.not_eq_true', hasId_iff, beq_iff, decide_eq_true_eq] at e1
      rcases e1 with ((e1 | e1) | e1) | e1
      · have : hasId t look = true := hasId_iff.2 ht
        rw [this] at e1; cases e1
      · exact .inl e1
      · exact .inr (.inl e1)
      · exact .inr (.inr e1)
    | k + 1, h =>
      have := looksOk_at e.2 k o t (by simpa using h) hd ht
      rw [show i + (k + 1) = i + 1 + k by omega]
      exact this

/-- Back over operations that do not change an object. -/
theorem Reg.back (R : Reg P G call ops N hs Fs vs rc) {id : Nat} {o : AObj} {j : Nat} : ∀ (m : Nat), j ≤ m → m ≤ ops.size → (∀ i, j ≤ i → i < m → ¬ (rc i).wr.Holds id) → (hs m).get id = some o → (hs j).get id = some o
  | 0, h, _, _, e => by have : j = 0 := by omega
                        subst this; exact e
  | m + 1, h, hm, hn, e => by
    rcases Nat.lt_or_ge j (m + 1) with h1 | h1
    · obtain ⟨o', ho'⟩ := Reg.get (ops := ops) (j := m) (by omega)
      exact R.back m (by omega) (by omega) (fun i h2 h3 => hn i h2 (by omega)) ((R.spec m o' ho').keep id o (hn m (by omega) (by omega)) e)
    · have : j = m + 1 := by omega
      subst this; exact e

theorem put_getD {t d : Nat} {x : Value} {dst : Option Tmp} (h : dst ≠ some t) : (a.put dst x).tmps.getD t undef = a.tmps.getD t undef := by
  cases dst with
  | none => rfl
  | some d => 
    have : d ≠ t := fun e => h (by rw [e])
    simp [Act.put, Array.getD_eq_getD_getElem?, Array.getElem?_setIfInBounds, this]

theorem put_getD_self {t : Nat} {x : Value} (h : t < a.tmps.size) : (a.put (some t) x).tmps.getD t undef = x := by
  simp [Act.put, Array.getD_eq_getD_getElem?, h]

theorem put_size {dst : Option Tmp} {x : Value} : (a.put dst x).tmps.size = a.tmps.size := by
  cases dst <;> simp [Act.put]

theorem put_defers {dst : Option Tmp} {x : Value} : (a.put dst x).defers = a.defers := by
  cases dst <;> simp [Act.put]

/-- One more. -/
theorem Inv.step (R : Reg P G call ops N hs Fs vs rc) (hG : GOk G pl0 M0) (hdom : ∀ id p, pl0 id = some p → id < h0.n) (hh0 : h0.n ≤ (hs 0).n)
    (I : Inv P G ops N hs Fs vs rc h0 pl0 M0 w0 L a w) {j : Nat} {o : Oper} (ho : ops[j]? = some o) (hnL : ¬ L j) (hrd : ∀ d, d ∈ depsOf o.after.toList → L d)
    {K : Act → World → Prop} {Q : Exit → Act → World → Prop} (hK : ∀ a' w', Inv P G ops N hs Fs vs rc h0 pl0 M0 w0 (fun i => i = j ∨ L i) a' w' → K a' w') : wpOp P ops Q j K a w := by
  obtain ⟨hdown, ⟨pl, M, g, hr, hst, hV, hU, hF1, hF2⟩, hsz, hdf⟩ := I
  have hj : j < ops.size := (Array.getElem?_eq_some_iff.1 ho).1
  have hmask := ready_mask hdown ho (R.below j o ho) hrd
  have hn0 : h0.n ≤ (hs j).n := Nat.le_trans hh0 (R.mono (Nat.zero_le _) (by omega))
  obtain ⟨hfn, hfr⟩ := R.frame j (by omega)
  -- a later one that must come behind 'j' is not listed
  have later : ∀ i o', ops[i]? = some o' → Nat.testBit (maskAt (masksGo ops.toList 0 []) i) j = true → ¬ L i := fun i o' _ hb hL => hnL (hdown i hL j hb)
  unfold wpOp
  rw [ho]
  simp only []
  refine (R.spec j o ho).exec (hs ops.size).n h0.n g pl M a w K Q hn0 (R.mono (by omega) (Nat.le_refl _)) R.big hr ?_ ?_ ?_ ?_ hdf ?_ ?_
  · intro id o' hv hg
    refine hV id j o' (by omega) (fun i hi hw => ?_) (fun i hi hi2 hw => ?_) hg
    · exact hmask i (R.ord j o ho i hi ⟨id, .inl ⟨hw, hv⟩⟩)
    · rcases Nat.lt_or_ge j i with h1 | h1
      · obtain ⟨oi, hoi⟩ := Reg.get (ops := ops) hi2
        exact later i oi hoi (R.ord i oi hoi j h1 ⟨id, .inr (.inl ⟨hw, hv⟩)⟩)
      · have : i = j := by omega
        subst this; exact hnL
  · exact fun id h1 h2 => hU j hj hnL id h1 h2
  · refine hG.mono (fun id p hp => ?_) hst.mem
    obtain ⟨p', k1, k2⟩ := hst.ext id p hp
    exact ⟨p', cutPl_some.2 ⟨by have := hdom id p hp; omega, k1⟩, k2⟩
  · rw [hsz, hfn]
  · intro t u ht hu
    obtain ⟨k1, k2⟩ := hfr t u hu
    refine ⟨by rw [hfn]; exact k1, ?_⟩
    rcases k2 with ⟨i, oi, q1, q2, q3, q4⟩ | ⟨q1, q2⟩
    · subst q4
      rcases looksOk_at (R.looks j o ho) i oi t (by simpa using q2) q3 ht with z | z | z
      · omega
      · exact hF1 i oi t q2 (hrd i (by simpa using z)) q3
      · have := R.maskLow (i + 1) i (by omega) oi q2 j (by simpa using z)
        omega
    · refine hF2 t u (fun i oi hoi hLi hd => ?_) q2
      rcases Nat.lt_or_ge i j with h1 | h1
      · exact q1 i oi h1 hoi hd
      · rcases looksOk_at (R.looks j o ho) i oi t (by simpa using hoi) hd ht with z | z | z
        · have : i = j := by omega
          subst this; exact hnL hLi
        · have := belowAll_ok (R.below j o ho) _ z
          omega
        · exact later i oi hoi (by simpa using z) hLi
  · intro cv w' pl' M' g' r1 r2 r3 r4 r5 r6 r7
    refine hK _ _ ⟨fun i hi x hx => ?_, ⟨pl', M', g', r1, hst.trans r2 (Nat.le_refl _), ?_, ?_, ?_, ?_⟩, by rw [put_size]; exact hsz, by rw [put_defers]; exact hdf⟩
    · rcases hi with rfl | hi
      · exact .inr (hmask x hx)
      · exact .inr (hdown i hi x hx)
    · intro id m o' hm ha hb hg
      by_cases hw : (rc j).wr.Holds id
      · have hjm : j < m := by
          rcases Nat.lt_or_ge j m with h1 | h1
          · exact h1
          · exact absurd (.inl rfl) (hb j h1 hj hw)
        refine r7 id o' hw (R.back m (by omega) hm (fun i h1 h2 hwi => ?_) hg)
        obtain ⟨oi, hoi⟩ := Reg.get (ops := ops) (j := i) (by omega)
        rcases ha i h2 hwi with rfl | hLi
        · omega
        · exact later i oi hoi (R.ord i oi hoi j (by omega) ⟨id, .inr (.inr ⟨hw, hwi⟩)⟩) hLi
      · rw [r6 id hw]
        refine hV id m o' hm (fun i hi hwi => ?_) (fun i hi hi2 hwi hLi => hb i hi hi2 hwi (.inr hLi)) hg
        rcases ha i hi hwi with rfl | hLi
        · exact absurd hwi hw
        · exact hLi
    · intro k hk hnk id h1 h2
      have hkj : k ≠ j := fun e => hnk (.inl e)
      refine r5 id (hU k hk (fun h => hnk (.inr h)) id h1 h2) ?_
      rcases Nat.lt_or_ge k j with h3 | h3
      · have := R.mono (i := k + 1) (j := j) (by omega) (by omega)
        exact .inl (by omega)
      · have := R.mono (i := j + 1) (j := k) (by omega) (by omega)
        exact .inr (by omega)
    · intro k ok t hok hLk hd
      by_cases e : k = j
      · subst e
        rw [ho] at hok
        cases hok
        rw [hd]
        have hlt : t < a.tmps.size := by
          have hp := R.put k o ho
          rw [hd] at hp
          simp only [putA, Fr.put] at hp
          split at hp
          · rename_i hb
            rw [blt_iff] at hb
            simp only [decide_eq_true_eq] at hb
            rw [hsz, ← hfn]; exact hb
          · simp at hp
        rw [put_getD_self hlt]
        exact r3
      · have hLk : L k := hLk.resolve_left e
        rw [put_getD (d := 0) fun h => e (R.dsts k j ok o t hok ho hd h)]
        exact (hF1 k ok t hok hLk hd).mono r4 r2.mem
    · intro t u hno hu
      rw [put_getD (d := 0) (hno j o ho (.inl rfl))]
      exact (hF2 t u (fun i oi hoi hLi => hno i oi hoi (.inr hLi)) hu).mono r4 r2.mem

end
end Go.Ev

/- Regions that draw their order: the machine's answer is the model's, whatever order is drawn. -/
namespace Go.Ev
open Go

section
variable {P : Program} {G : Env} {call : Caller} {ops : Array Oper} {N : Nat} {hs : Nat → AHeap} {Fs : Nat → Fr} {vs : Nat → AV} {rc : Nat → Rec} {h0 : AHeap} {pl0 : Pl} {M0 : Mem} {w0 : World} {L : Nat → Prop} {a : Act} {w : World}

/-- Where nothing is ready, all is listed. -/
theorem Reg.all_listed (R : Reg P G call ops N hs Fs vs rc) {listed : Array Bool} (hl : listed.size = ops.size) (h : Region.ready .any ops listed = []) : ∀ (n j : Nat), j < n → j < ops.size → listed.getD j false = true
  | 0, j, h1, _ => by omega
  | n + 1, j, h1, h2 => by
    obtain ⟨o, ho⟩ := Reg.get (ops := ops) h2
    cases hv : listed.getD j false with
    | true => rfl
    | false =>
      exfalso
      have : j ∈ Region.ready .any ops listed := by
        refine mem_ready.2 ⟨?_, o, ho, fun e he hb => ?_⟩
        · have hlt : j < listed.size := by omega
          simp [Array.getD, hlt] at hv ⊢
          exact hv
        · have hd := belowAll_ok (R.below j o ho) e.on (depsOf_mem.2 ⟨e, by simpa using he, hb, rfl⟩)
          exact R.all_listed hl h n e.on (by omega) (by omega)
      rw [h] at this
      simp at this

/-- At the end. -/
theorem Inv.last (R : Reg P G call ops N hs Fs vs rc) (I : Inv P G ops N hs Fs vs rc h0 pl0 M0 w0 L a w) (hall : ∀ j, j < ops.size → L j) :
    ∃ pl M, Rep pl M (hs ops.size) w ∧ Step h0 pl0 M0 w0 (hs ops.size) pl M w ∧ FrRel pl M (Fs ops.size) a := by
  obtain ⟨hdown, ⟨pl, M, g, hr, hst, hV, hU, hF1, hF2⟩, hsz, hdf⟩ := I
  have key : ∀ id o, (hs ops.size).get id = some o → g id = some o := fun id o hg => hV id ops.size o (Nat.le_refl _) (fun i hi _ => hall i hi) (fun i h1 h2 => by omega) hg
  obtain ⟨hfn, hfr⟩ := R.frame ops.size (Nat.le_refl _)
  refine ⟨pl, M, ⟨hr.dom, fun id p o hp hg => hr.obj id p o hp (key id o hg), hr.blk, hr.inj, hr.imm, hr.sep⟩, ⟨hst.ext, hst.new, hst.mem, hst.size, hst.kept, hst.blks, fun id p hp hg => ?_, hst.stay, hst.memNew, hst.os, hst.tape, hst.out, hst.drawn⟩, ⟨by rw [hsz, hfn], hdf, fun t u ht => ?_⟩⟩
  · cases hh : (hs ops.size).get id with
    | none => rfl
    | some o => have := hst.live id p hp hg; rw [key id o hh] at this; cases this
  · obtain ⟨k1, k2⟩ := hfr t u ht
    refine ⟨by rw [hfn]; exact k1, ?_⟩
    rcases k2 with ⟨i, oi, q1, q2, q3, q4⟩ | ⟨q1, q2⟩
    · subst q4
      exact hF1 i oi t q2 (hall i q1) q3
    · exact hF2 t u (fun i oi hoi _ => q1 i oi (Array.getElem?_eq_some_iff.1 hoi).1 hoi) q2

theorem any_ok (R : Reg P G call ops N hs Fs vs rc) (hG : GOk G pl0 M0) (hdom : ∀ id p, pl0 id = some p → id < h0.n) (hh0 : h0.n ≤ (hs 0).n) {Q : Exit → Act → World → Prop}
    (hQ : ∀ a1 w1, (∃ pl M, Rep pl M (hs ops.size) w1 ∧ Step h0 pl0 M0 w0 (hs ops.size) pl M w1 ∧ FrRel pl M (Fs ops.size) a1) → Q .normal a1 w1) :
    ∀ (fuel : Nat) (listed : Array Bool) (a : Act) (w : World), listed.size = ops.size → listed.count false ≤ fuel → Inv P G ops N hs Fs vs rc h0 pl0 M0 w0 (fun j => listed.getD j false = true) a w → wpAny P .any ops Q fuel listed a w := by
  intro fuel
  induction fuel with
  | zero =>
    intro listed a w hl hc I
    have hall : ∀ j, j < ops.size → listed.getD j false = true := by
      intro j hj
      have hlt : j < listed.size := by omega
      cases hv : listed[j] with
      | true => simp [Array.getD, hlt, hv]
      | false =>
        have h1 : 0 < listed.count false := Array.count_pos_iff.2 (hv ▸ Array.getElem_mem hlt)
        omega
    refine ⟨?_, hQ a w (I.last R hall)⟩
    refine List.eq_nil_iff_forall_not_mem.2 fun j hj => ?_
    obtain ⟨h1, o, ho, _⟩ := mem_ready.1 hj
    have hlt : j < ops.size := (Array.getElem?_eq_some_iff.1 ho).1
    have h2 := hall j hlt
    have hlt : j < listed.size := by omega
    simp [Array.getD, hlt] at h1 h2
    rw [h1] at h2; cases h2
  | succ fuel ih =>
    intro listed a w hl hc I
    refine ⟨fun h => hQ a w (I.last R fun j hj => R.all_listed hl h (j + 1) j (by omega) hj), fun j hj => ?_⟩
    obtain ⟨h1, o, ho, h2⟩ := mem_ready.1 hj
    have hlt0 : j < ops.size := (Array.getElem?_eq_some_iff.1 ho).1
    have hlt : j < listed.size := by omega
    have hf : listed[j] = false := by simpa [Array.getD, hlt] using h1
    refine I.step R hG hdom hh0 ho (by simp [Array.getD, hlt, hf]) (fun d hd => ?_) fun a' w' I' => ?_
    · obtain ⟨e, he, hb, rfl⟩ := depsOf_mem.1 hd
      exact h2 e (by simpa using he) hb
    · refine ih _ a' w' (by simpa using hl) ?_ ?_
      · have hs : listed.setIfInBounds j true = listed.set j true hlt := by simp [Array.setIfInBounds, hlt]
        rw [hs, Array.count_set]
        have : 0 < listed.count false := Array.count_pos_iff.2 (hf ▸ Array.getElem_mem hlt)
        simp [hf]
        omega
      · have e : (fun i => i = j ∨ listed.getD i false = true) = fun i => (listed.setIfInBounds j true).getD i false = true := by
          funext i
          apply propext
          by_cases q : j = i
          · subst q
            simp [Array.getD, hlt]
          · rw [getD_set_ne false q]
            constructor
            · rintro (h | h)
              · exact absurd h.symm q
              · exact h
            · exact .inr
        rw [← e]; exact I'

theorem readyAll_get {masks : List (Nat × Nat)} : ∀ {l : List Oper} {i : Nat} {ds : List DOper}, readyAll P G ops masks l i = some ds → ds.length = l.length ∧ ∀ (k : Nat) (o : Oper), l[k]? = some o →
    belowAll (i + k) (depsOf o.after.toList) = true ∧ looksOk masks (depsOf o.after.toList) (o.looksAt ops) (i + k) ops.toList 0 = true ∧
    ds[k]? = some ⟨oneOper P G ops o, o.looksAt ops, footOf o.op, kindOf o.op, maskAt masks (i + k)⟩
  | [], i, ds, e => by simp [readyAll] at e; subst e; exact ⟨rfl, fun k o h => by simp at h⟩
  | o' :: r, i, ds, e => by
    simp only [readyAll] at e
    split at e
    · rename_i hck
      simp only [Bool.and_eq_true] at hck
      cases hr : readyAll P G ops masks r (i + 1) with
      | none => rw [hr] at e; simp at e
      | some l =>
        rw [hr] at e
        simp at e
        subst e
        obtain ⟨h1, h2⟩ := readyAll_get hr
        refine ⟨by simp [h1], fun k o hk => ?_⟩
        match k, hk with
        | 0, hk =>
          simp at hk
          subst hk
          exact ⟨hck.1, hck.2, rfl⟩
        | k + 1, hk =>
          have := h2 k o (by simpa using hk)
          rw [show i + (k + 1) = i + 1 + k by omega]
          simpa using this
    · simp at e

theorem dstsOk_ok : ∀ {l : List Oper}, dstsOk l = true → ∀ (i j : Nat) (oi oj : Oper) (t : Tmp), l[i]? = some oi → l[j]? = some oj → oi.dst = some t → oj.dst = some t → i = j
  | [], _, i, j, oi, oj, t, h, _, _, _ => by simp at h
  | o :: r, e, i, j, oi, oj, t, hi, hj, h1, h2 => by
    simp only [dstsOk, Bool.and_eq_true] at e
    have clash : ∀ (k : Nat) (q : Oper), r[k]? = some q → o.dst = some t → q.dst = some t → False := by
      intro k q hk a b
      have e1 := e.1
      rw [a] at e1
      have := List.all_eq_true.1 e1 q (List.mem_of_getElem? hk)
      rw [b] at this
      simp [beq_iff] at this
    match i, j, hi, hj with
    | 0, 0, _, _ => rfl
    | 0, j + 1, hi, hj => simp at hi; subst hi; exact (clash j oj (by simpa using hj) h1 h2).elim
    | i + 1, 0, hi, hj => simp at hj; subst hj; exact (clash i oi (by simpa using hi) h2 h1).elim
    | i + 1, j + 1, hi, hj => rw [dstsOk_ok e.2 i j oi oj t (by simpa using hi) (by simpa using hj) h1 h2]

/-- A program that may draw any order: its regions. -/
theorem draw_ok (hm : P.follows .mixedOrders = true) (hc : CallerOK P G call) : DrawOK P G call := by
  intro N h0 pl0 M0 w0 ops id s s' a w Q e hsn hQ
  unfold drawOps at e
  split at e
  · rename_i hck
    simp only [Bool.and_eq_true] at hck
    split at e
    · rename_i _ ds hrd
      have e : smallEnd ((drawGo ds).run call s.tmps s.heap [] 0) = some s' := e
      obtain ⟨⟨pl, M, g1, g2, g3, g4, g5⟩, hn, hsm⟩ := hsn
      cases hgo : (drawGo ds).run call s.tmps s.heap [] 0 with
      | none => rw [hgo] at e; simp [smallEnd] at e
      | some s1 =>
        rw [hgo] at e
        simp only [smallEnd] at e
        split at e
        · rename_i hbig
          simp at e
          subst e
          rw [ble_iff] at hbig
          simp only [decide_eq_true_eq] at hbig
          obtain ⟨hs, Fs, vs, rc, a1, _, D, rfl⟩ := drawGo_data (call := call) ds 0 (fun _ => s.heap) (fun _ => s.tmps) (fun _ => undefA) (fun _ => ⟨⟨false, [], 0, 0⟩, ⟨false, [], 0, 0⟩⟩) s1 hgo
          obtain ⟨e1, e2⟩ := a1 0 (Nat.le_refl _)
          obtain ⟨hlen, hget⟩ := readyAll_get hrd
          have hlen : ds.length = ops.size := by simpa using hlen
          rw [Nat.zero_add, hlen] at hQ hbig
          have R : Reg P G call ops N hs Fs vs rc := by
            refine ⟨hsm, by rw [e2]; exact hn, fun t u h => ?_, hbig, fun j o ho => ?_, fun j o ho => ?_, fun j o ho i hi hcl => ?_, fun j o ho => ?_, fun j o ho => ?_, fun i j oi oj t hi hj => dstsOk_ok hck.1 i j oi oj t (by simpa using hi) (by simpa using hj)⟩
            · rw [e2] at h
              have := (g3.at_ t u h).1
              omega
            · obtain ⟨_, _, h3⟩ := hget j o (by simpa using ho)
              have h4 := D.one j _ h3
              simp only [Nat.zero_add] at h4
              exact dOne_ok hc rfl rfl h4
            · obtain ⟨_, _, h3⟩ := hget j o (by simpa using ho)
              have h4 := D.put j _ h3
              simp only [Nat.zero_add] at h4
              exact h4
            · obtain ⟨_, _, h3⟩ := hget j o (by simpa using ho)
              have h4 := D.ord j _ h3 i (by omega)
              simp only [Nat.zero_add] at h4
              exact h4 hcl
            · obtain ⟨h1, _, _⟩ := hget j o (by simpa using ho)
              simpa using h1
            · obtain ⟨_, h1, _⟩ := hget j o (by simpa using ho)
              simpa using h1
          refine wp_region_any hm (any_ok R (h0 := s.heap) (pl0 := pl) (M0 := M) (w0 := w) g1 g2.dom (by rw [e1]; exact Nat.le_refl _) (fun a1 w1 h1 => ?_) ops.size _ a _ (by simp) ?_ ?_)
          · obtain ⟨pl1, M1, k1, k2, k3⟩ := h1
            refine hQ a1 w1 ⟨⟨pl1, M1, g1.mono k2.ext k2.mem, k1, k3, g4.trans k2 g5, ?_⟩, (R.frame ops.size (Nat.le_refl _)).1, hsm⟩
            have := R.mono (Nat.zero_le ops.size) (Nat.le_refl _)
            rw [e1] at this
            exact Nat.le_trans g5 this
          · refine Nat.le_trans Array.count_le_size (by simp)
          · have hno : ∀ j, ¬ (Array.replicate ops.size false).getD j false = true := by
              intro j h
              by_cases hj : j < ops.size <;> simp [Array.getD, hj] at h
            refine ⟨fun i hi => absurd hi (hno i), ⟨pl, M, s.heap.get, ?_, ?_, fun id m o hm ha _ hg => ?_, fun j hj _ id h1 h2 => ?_, fun j o t _ h => absurd h (hno j), fun t u _ hu => ?_⟩, by rw [g3.size]; exact hn, g3.defers⟩
            · refine ⟨fun id p hp => ?_, g2.obj, g2.blk, g2.inj, g2.imm, g2.sep⟩
              have h1 := g2.dom id p hp
              have := R.mono (Nat.zero_le ops.size) (Nat.le_refl _)
              rw [e1] at this
              omega
            · exact ⟨Ext.refl _, fun _ _ h => h, fun _ _ h => h, Nat.le_refl _, fun _ _ _ => rfl, fun id p h => .inl ⟨p, h, rfl⟩, fun _ _ _ h => h, fun _ _ h _ => h, fun _ _ h => .inl h, rfl, rfl, rfl, Nat.le_succ _⟩
            · have := R.back (j := 0) m (Nat.zero_le _) hm (fun i _ h2 hw => hno i (ha i h2 hw)) hg
              rw [e1] at this
              exact this
            · cases hp : pl id with
              | none => rfl
              | some p =>
                have h3 := g2.dom id p hp
                have := R.mono (Nat.zero_le j) (by omega)
                rw [e1] at this
                omega
            · rw [e2] at hu
              exact (g3.at_ t u hu).2
        · simp at e
    · simp at e
  · simp at e

end
end Go.Ev

/- The evaluator is sound; closed runs. -/
namespace Go.Ev
open Go

/-- The machine's answers are the model's: no premise on regions is left. -/
theorem ev_ok {C : Cfg} (hN : NoNG C.P) (hm : C.P.follows .mixedOrders = true) (hH : HookOK C) (k : Nat) : CallerOK C.P C.G (evFunc C k) :=
  evFunc_ok hN hH (fun _ hc => draw_ok hm hc) k

end Go.Ev

/- Rules over the abstract machine: what a piece of code does to an abstract state, said by what may be left. -/
namespace Go.Ev
open Go

/-- The base of a run: 'some m': there are 'm' objects, and no other is known. -/
def Base (b : Option Nat) (h0 : AHeap) (pl0 : Pl) : Prop := ∀ m, b = some m → h0.n = m ∧ ∀ id p, pl0 id = some p → id < m
theorem Base.zero {h0 : AHeap} {pl0 : Pl} (h : Base (some 0) h0 pl0) : h0.n = 0 ∧ ∀ id, pl0 id = none :=
  ⟨(h 0 rfl).1, fun id => by
    cases hp : pl0 id with
    | none => rfl
    | some p => exact absurd ((h 0 rfl).2 id p hp) (Nat.not_lt_zero _)⟩

/-- A call's outcome: a value and a heap that 'Ψ' allows. -/
def CallPost (P : Program) (pl : Pl) (M : Mem) (h : AHeap) (w : World) (f : FuncId) (vs : Array Value) (Ψ : AV → AHeap → Prop) : Prop :=
  ((callFunc f vs).run P w = .ok (.enter f vs) w ∧ Calls P f vs w fun e w' => ∃ cv v h', e = .returned cv ∧ Ψ v h' ∧ After pl M h w v h' cv w') ∨
  (∃ cv w' v h', (callFunc f vs).run P w = .ok (.value cv) w' ∧ Ψ v h' ∧ After pl M h w v h' cv w')

def HCall (P : Program) (G : Env) (f : FuncId) (args : List AV) (h : AHeap) (Ψ : AV → AHeap → Prop) : Prop :=
  ∀ (pl : Pl) (M : Mem) (w : World) (vs : Array Value), GOk G pl M → Rep pl M h w → VRels pl M args vs → CallPost P pl M h w f vs Ψ

def HCode (P : Program) (G : Env) (b : Option Nat) (c : Code) (s : St) (Φ : AExit → St → Prop) : Prop :=
  ∀ (N : Nat) (h0 : AHeap) (pl0 : Pl) (M0 : Mem) (w0 : World) (a : Act) (w : World) (Q : Exit → Act → World → Prop), Base b h0 pl0 → SNow G N h0 pl0 M0 w0 s a w →
    (∀ e s' a1 w1, Φ e s' → SNow G N h0 pl0 M0 w0 s' a1 w1 → Q (toExit e) a1 w1) → c.wp P Q a w

def HOps (P : Program) (G : Env) (b : Option Nat) (ops : Array Oper) (l : List Oper) (s : St) (Φ : St → Prop) : Prop :=
  ∀ (i : Nat) (N : Nat) (h0 : AHeap) (pl0 : Pl) (M0 : Mem) (w0 : World) (a : Act) (w : World) (Q : Exit → Act → World → Prop), Base b h0 pl0 → (∀ j, ops[i + j]? = l[j]?) → SNow G N h0 pl0 M0 w0 s a w →
    (∀ s' a1 w1, Φ s' → SNow G N h0 pl0 M0 w0 s' a1 w1 → Q .normal a1 w1) → wpOps P ops Q (List.range' i l.length) a w

def noCall : Caller := fun _ _ _ => none

section
variable {P : Program} {G : Env} {b : Option Nat} {ops : Array Oper} {l : List Oper} {o : Oper} {s s' : St} {h h' : AHeap} {v : AV} {A A' : Fr} {call : Caller} {f : FuncId} {args : List AV} {c d : Code}

theorem noCall_ok : CallerOK P G noCall := fun _ _ _ _ _ h => by simp [noCall] at h

theorem HCall.mono {Ψ Ψ' : AV → AHeap → Prop} (hh : HCall P G f args h Ψ) (hi : ∀ v h', Ψ v h' → Ψ' v h') : HCall P G f args h Ψ' := by
  intro pl M w vs hg hr hv
  rcases hh pl M w vs hg hr hv with ⟨h1, h2⟩ | ⟨cv, w', v, h', h1, h2, h3⟩
  · exact .inl ⟨h1, Calls.mono h2 fun e w' ⟨cv, v, h', k1, k2, k3⟩ => ⟨cv, v, h', k1, hi v h' k2, k3⟩⟩
  · exact .inr ⟨cv, w', v, h', h1, hi v h' h2, h3⟩

/-- A caller's answer. -/
theorem HCall.of (hc : CallerOK P G call) (e : call f args h = some (v, h')) : HCall P G f args h (fun v1 h1 => v1 = v ∧ h1 = h') := by
  intro pl M w vs hg hr hv
  rcases hc f args h v h' e pl M w vs hg hr hv with ⟨h1, h2⟩ | ⟨cv, w', h1, h2⟩
  · exact .inl ⟨h1, Calls.mono h2 fun e w' ⟨cv, k1, k2⟩ => ⟨cv, v, h', k1, ⟨rfl, rfl⟩, k2⟩⟩
  · exact .inr ⟨cv, w', v, h', h1, ⟨rfl, rfl⟩, h2⟩

theorem HCode.mono {Φ Φ' : AExit → St → Prop} (hh : HCode P G b c s Φ) (hi : ∀ e s', Φ e s' → Φ' e s') : HCode P G b c s Φ' :=
  fun N h0 pl0 M0 w0 a w Q hb hs hQ => hh N h0 pl0 M0 w0 a w Q hb hs fun e s' a1 w1 h1 h2 => hQ e s' a1 w1 (hi e s' h1) h2

theorem HCode.skip {Φ : AExit → St → Prop} (h : Φ .normal s) : HCode P G b .skip s Φ :=
  fun _ _ _ _ _ a w _ _ hs hQ => wp_skip (hQ .normal s a w h hs)
theorem HCode.label {Φ : AExit → St → Prop} {x} (h : Φ .normal s) : HCode P G b (.label x) s Φ :=
  fun _ _ _ _ _ a w _ _ hs hQ => wp_label (hQ .normal s a w h hs)
theorem HCode.exit {Φ : AExit → St → Prop} {id : Nat} (h : Φ (.exit id) s) : HCode P G b (.exit id) s Φ :=
  fun _ _ _ _ _ a w _ _ hs hQ => wp_exit (hQ (.exit id) s a w h hs)
theorem HCode.ret {Φ : AExit → St → Prop} (h : Φ .ret s) : HCode P G b .ret s Φ :=
  fun _ _ _ _ _ a w _ _ hs hQ => wp_ret (hQ .ret s a w h hs)

/-- Behind a first part. -/
def Then (P : Program) (G : Env) (b : Option Nat) (d : Code) (Φ : AExit → St → Prop) : AExit → St → Prop
  | .normal, s => HCode P G b d s Φ
  | e, s => Φ e s

theorem HCode.seq {Φ : AExit → St → Prop} (h : HCode P G b c s (Then P G b d Φ)) : HCode P G b (.seq c d) s Φ := by
  intro N h0 pl0 M0 w0 a w Q hb hs hQ
  refine wp_seq (h N h0 pl0 M0 w0 a w _ hb hs fun e s' a1 w1 h1 h2 => ?_)
  cases e with
  | normal => exact h1 N h0 pl0 M0 w0 a1 w1 Q hb h2 hQ
  | exit id => exact hQ (.exit id) s' a1 w1 h1 h2
  | ret => exact hQ .ret s' a1 w1 h1 h2

theorem HCode.cond {Φ : AExit → St → Prop} {x : Operand} {t : Bool} (hx : (opd G x).run s.tmps = some (.bool t)) (h1 : t = true → HCode P G b c s Φ) (h2 : t = false → HCode P G b d s Φ) : HCode P G b (.cond x c d) s Φ := by
  intro N h0 pl0 M0 w0 a w Q hb hs hQ
  obtain ⟨pl, M, g1, g2, g3, g4, g5⟩ := hs.ex
  have hv := opd_ok g1 g3 hx
  generalize hq : a.eval x = y at hv
  cases hv
  cases t
  · exact wp_cond_false hq (h2 rfl N h0 pl0 M0 w0 a w Q hb hs hQ)
  · exact wp_cond_true hq (h1 rfl N h0 pl0 M0 w0 a w Q hb hs hQ)

/-- Out of a block. -/
def OutB (id : Nat) (Φ : AExit → St → Prop) : AExit → St → Prop
  | .exit k, s => if k = id then Φ .normal s else Φ (.exit k) s
  | e, s => Φ e s

theorem HCode.block {Φ : AExit → St → Prop} {id : Nat} (h : HCode P G b c s (OutB id Φ)) : HCode P G b (.block id c) s Φ := by
  intro N h0 pl0 M0 w0 a w Q hb hs hQ
  refine wp_block (h N h0 pl0 M0 w0 a w _ hb hs fun e s' a1 w1 h1 h2 => ?_)
  cases e with
  | normal => exact hQ .normal s' a1 w1 h1 h2
  | ret => exact hQ .ret s' a1 w1 h1 h2
  | exit k =>
    by_cases hk : k = id
    · simp only [OutB, hk, if_true] at h1
      simp only [toExit, Exit.inBlock, hk, if_true]
      exact hQ .normal s' a1 w1 h1 h2
    · simp only [OutB, hk, if_false] at h1
      simp only [toExit, Exit.inBlock, hk, if_false]
      exact hQ (.exit k) s' a1 w1 h1 h2

/-- The next round. -/
def Round (n : Nat) (I : Nat → St → Prop) (Φ : AExit → St → Prop) : AExit → St → Prop
  | .normal, s => ∃ m, m < n ∧ I m s
  | e, s => Φ e s

/-- A loop: an invariant with a measure. -/
theorem HCode.loop {Φ : AExit → St → Prop} (I : Nat → St → Prop) (n : Nat) (h0 : I n s) (hI : ∀ n s, I n s → HCode P G b c s (Round n I Φ)) : HCode P G b (.loop c) s Φ := by
  intro N hp0 pl0 M0 w0 a w Q hb hs hQ
  have key : ∀ (n m : Nat) (s : St) (a : Act) (w : World), n < m → I n s → SNow G N hp0 pl0 M0 w0 s a w → Code.rounds P c Q m a w := by
    intro n
    induction n using Nat.strongRecOn with
    | _ n ih =>
      intro m s a w hm hi hs
      cases m with
      | zero => omega
      | succ m =>
        rw [rounds_succ]
        refine hI n s hi N hp0 pl0 M0 w0 a w _ hb hs fun e s' a1 w1 h1 h2 => ?_
        cases e with
        | normal =>
          obtain ⟨k, hk, hi'⟩ := h1
          exact ih k hk m s' a1 w1 (by omega) hi' h2
        | exit id => exact hQ (.exit id) s' a1 w1 h1 h2
        | ret => exact hQ .ret s' a1 w1 h1 h2
  exact wp_loop_rounds (n + 1) (key n (n + 1) s a w (Nat.lt_succ_self n) h0 hs)

theorem HCode.scope {Φ : AExit → St → Prop} (h : HCode P G b c s Φ) : HCode P G b (.scope c) s Φ := by
  intro N h0 pl0 M0 w0 a w Q hb hs hQ
  refine wp_scope_straight (h N h0 pl0 M0 w0 a w _ hb hs fun e s' a1 w1 h1 h2 => ?_)
  cases e <;> exact hQ _ s' a1 w1 h1 h2

/-- By a run. -/
theorem HCode.run (hm : P.follows .mixedOrders = true) (hc : CallerOK P G call) {n : Nat} {e : AExit} {Φ : AExit → St → Prop} (hr : (evCode P G n c).run call s = some (e, s')) (h : Φ e s') : HCode P G b c s Φ :=
  fun N h0 pl0 M0 w0 a w Q _ hs hQ => code_ok hc (draw_ok hm hc) n c s e s' a w Q hr hs fun a1 w1 h1 => hQ e s' a1 w1 h h1

theorem HCode.region {Φ : AExit → St → Prop} {id : Nat} (h : HOps P G b ops ops.toList s (Φ .normal)) : HCode P G b (.region id ops false) s Φ := by
  intro N h0 pl0 M0 w0 a w Q hb hs hQ
  refine wp_region ?_
  rw [List.range_eq_range']
  have hlen : ops.size = ops.toList.length := by simp
  rw [hlen]
  exact h 0 N h0 pl0 M0 w0 a w Q hb (fun j => by simp) hs fun s' a1 w1 h1 h2 => hQ .normal s' a1 w1 h1 h2

theorem HOps.nil {Φ : St → Prop} (h : Φ s) : HOps P G b ops [] s Φ :=
  fun _ _ _ _ _ _ a w _ _ _ hs hQ => hQ s a w h hs

theorem HOps.one {Φ : St → Prop} (hc : CallerOK P G call) (e : stepR call (oneOper P G ops o) s some = some s') (h : HOps P G b ops l s' Φ) : HOps P G b ops (o :: l) s Φ := by
  intro i N h0 pl0 M0 w0 a w Q hb hl hs hQ
  have ho : ops[i]? = some o := by simpa using hl 0
  simp only [List.length_cons, List.range'_succ, wpOps, ho]
  refine oper_ok (K := wpOps P ops Q (List.range' (i + 1) l.length)) hc hs e fun s1 a1 w1 h1 h2 => ?_
  cases h2
  exact h (i + 1) N h0 pl0 M0 w0 a1 w1 Q hb (fun j => by have := hl (j + 1); simpa [Nat.add_assoc, Nat.add_comm 1 j] using this) h1 hQ

theorem stepR_split {r : ROper} {k : St → Option St} (e : stepR call r s k = some s') : ∃ s1, stepR call r s some = some s1 ∧ k s1 = some s' := by
  have finS : ∀ x : Option (AV × AHeap), fin s.tmps r.dst k x = some s' → ∃ s1, fin s.tmps r.dst some x = some s1 ∧ k s1 = some s' := by
    intro x e
    unfold fin at e ⊢
    split at e
    · split at e
      · rename_i q; exact ⟨_, by simp [q], e⟩
      · simp at e
    · simp at e
  unfold stepR at e ⊢
  cases q : guardR s.tmps r.g with
  | none => rw [q] at e; simp at e
  | some x =>
    rw [q] at e
    cases x
    · exact finS _ e
    · exact finS _ e

theorem HOps.run {Φ : St → Prop} (hc : CallerOK P G call) : ∀ {l1 : List Oper} {s : St}, (runOps P G ops l1).run call s = some s' → HOps P G b ops l s' Φ → HOps P G b ops (l1 ++ l) s Φ
  | [], s, e, h => by simp [runOps] at e; subst e; exact h
  | o :: r, s, e, h => by
    simp only [runOps] at e
    obtain ⟨s1, e1, e2⟩ := stepR_split e
    exact HOps.one hc e1 (HOps.run hc e2 h)

/-- An operation that is wanted, by its outcome. -/
theorem HOps.val {Φ : St → Prop} (hg : guardR s.tmps (guardDst ops o) = some true) (e : (opR P G o.op).run s.tmps s.heap = some (.val v h')) (hp : putA s.tmps o.dst v = some A') (h : HOps P G b ops l ⟨A', h'⟩ Φ) : HOps P G b ops (o :: l) s Φ := by
  refine HOps.one (call := noCall) noCall_ok ?_ h
  simp [stepR, oneOper, hg, e, behind, fin, hp]

/-- A call, by its contract. -/
theorem HOps.calls {Φ : St → Prop} {Ψ : AV → AHeap → Prop} (hg : guardR s.tmps (guardDst ops o) = some true) (e : (opR P G o.op).run s.tmps s.heap = some (.call f args)) (hf : HCall P G f args s.heap Ψ)
    (h : ∀ v h', Ψ v h' → ∃ A', putA s.tmps o.dst v = some A' ∧ HOps P G b ops l ⟨A', h'⟩ Φ) : HOps P G b ops (o :: l) s Φ := by
  intro i N h0 pl0 M0 w0 a w Q hb hl hs hQ
  have ho : ops[i]? = some o := by simpa using hl 0
  obtain ⟨pl, M, g1, g2, g3, g4, g5⟩ := hs.ex
  simp only [List.length_cons, List.range'_succ, wpOps, ho]
  rw [guardR_ok g3 hg]
  simp only [if_true]
  left
  obtain ⟨vs, q1, q2⟩ := ok_call (P := P) (w := w) g1 g3 e
  have key : ∀ cv w' v h', Ψ v h' → After pl M s.heap w v h' cv w' → wpOps P ops Q (List.range' (i + 1) l.length) (a.put o.dst cv) w' := by
    intro cv w' v h' hΨ ⟨pl', M', k1, k2, k3, k4⟩
    obtain ⟨A', e2, hh⟩ := h v h' hΨ
    obtain ⟨p1, p2⟩ := putA_ok (g3.mono k3.ext k3.mem) k1 (by rw [hs.n]; exact hs.small) e2
    exact hh (i + 1) N h0 pl0 M0 w0 _ w' Q hb (fun j => by have := hl (j + 1); simpa [Nat.add_assoc, Nat.add_comm 1 j] using this)
      ⟨⟨pl', M', g1.mono k3.ext k3.mem, k2, p1, g4.trans k3 g5, Nat.le_trans g5 k4⟩, by rw [← hs.n]; exact p2, hs.small⟩ hQ
  unfold Oper.wp
  rw [q2]
  rcases hf pl M w vs g1 g2 q1 with ⟨k1, k2⟩ | ⟨cv, w', v, h', k1, k2, k3⟩
  · rw [k1]
    refine Calls.mono k2 fun en w'' ⟨cv, v, h', e1, e2, e3⟩ => ?_
    subst e1
    exact key cv w'' v h' e2 e3
  · rw [k1]
    exact key cv w' v h' k2 k3

/-- Less said of the same. -/
structure SubSt (s' s : St) : Prop where
  n : s'.tmps.n = s.tmps.n
  tmps : ∀ t v, s'.tmps.get t = some v → s.tmps.get t = some v
  hn : s.heap.n ≤ s'.heap.n
  objs : ∀ id o, s'.heap.get id = some o → s.heap.get id = some o

theorem SubSt.now {N : Nat} {h0 : AHeap} {pl0 : Pl} {M0 : Mem} {w0 : World} {a : Act} {w : World} (hS : SubSt s' s) (hs : SNow G N h0 pl0 M0 w0 s a w) : SNow G N h0 pl0 M0 w0 s' a w := by
  obtain ⟨⟨pl, M, g1, g2, g3, g4, g5⟩, hn, hsm⟩ := hs
  refine ⟨⟨pl, M, g1, ⟨fun id p hp => by have := g2.dom id p hp; have := hS.hn; omega, fun id p o hp hg => g2.obj id p o hp (hS.objs id o hg), g2.blk, g2.inj, g2.imm, g2.sep⟩, ⟨by rw [hS.n]; exact g3.size, g3.defers, fun t v ht => ?_⟩, ⟨g4.ext, g4.new, g4.mem, g4.size, g4.kept, g4.blks, fun id p hp hg => ?_, g4.stay, g4.memNew, g4.os, g4.tape, g4.out, g4.drawn⟩, Nat.le_trans g5 hS.hn⟩, by rw [hS.n]; exact hn, hsm⟩
  · have := g3.at_ t v (hS.tmps t v ht)
    rw [hS.n]; exact this
  · cases hh : s'.heap.get id with
    | none => rfl
    | some o => have := g4.live id p hp hg; rw [hS.objs id o hh] at this; cases this

theorem HOps.sub {Φ : St → Prop} (hS : SubSt s' s) (h : HOps P G b ops l s' Φ) : HOps P G b ops l s Φ :=
  fun i N h0 pl0 M0 w0 a w Q hb hl hs hQ => h i N h0 pl0 M0 w0 a w Q hb hl (hS.now hs) hQ
theorem HCode.sub {Φ : AExit → St → Prop} (hS : SubSt s' s) (h : HCode P G b c s' Φ) : HCode P G b c s Φ :=
  fun N h0 pl0 M0 w0 a w Q hb hs hQ => h N h0 pl0 M0 w0 a w Q hb (hS.now hs) hQ

/-- A function, by its body. -/
theorem HCall.enter {hp : AHeap} {fn : Func} {Ψ : AV → AHeap → Prop} (pol : Nat) (hf : P.funcs[f]? = some fn) (hN : (fn.name == "runtime.NumGoroutine") = false) (hb : fn.body = some c) (hn : Nat.ble args.length fn.ntmps = true ∧ Nat.ble fn.ntmps 60000 = true)
    (h : HCode P G (some hp.n) c ⟨⟨fn.ntmps, argsFr fn.ntmps args 0 .nil⟩, hp⟩ fun e s => (∀ id, e ≠ .exit id) ∧ ∃ v, oneOrTuple (resultsR P fn.results.toList s.tmps s.heap) = some v ∧ Ψ (leave pol hp.n v s.heap).1 (leave pol hp.n v s.heap).2) : HCall P G f args hp Ψ := by
  intro pl M w vs hg hr hv
  simp only [ble_iff, decide_eq_true_eq] at hn
  left
  simp only [beq_eq_false_iff_ne, ne_eq] at hN
  refine ⟨by simp [callFunc, hf, hN, hb], calls_of_wp hf hb ?_⟩
  have hs0 : SNow G fn.ntmps hp pl M w ⟨⟨fn.ntmps, argsFr fn.ntmps args 0 .nil⟩, hp⟩ { tmps := vs ++ Array.replicate (fn.ntmps - vs.size) undef, defers := [] } w :=
    ⟨⟨pl, M, hg, hr, start_fr hv hn.1 hn.2, Step.refl _ _ _ _, Nat.le_refl _⟩, rfl, hn.2⟩
  refine h fn.ntmps hp pl M w _ w _ (fun m hb => ?_) hs0 fun e s a1 w1 h1 h2 => ?_
  · cases hb
    exact ⟨rfl, fun id p hq => hr.dom id p hq⟩
  · obtain ⟨hne, v, hres, hΨ⟩ := h1
    obtain ⟨pl1, M1, g1, g2, g3, g4, g5⟩ := h2.ex
    obtain ⟨cv, k1, k2⟩ := results_ok g2 g3 hres
    obtain ⟨pl2, M2, q1, q2, q3, q4⟩ := leave_ok pol hr g2 k2 g4 g5 (rfl : leave pol hp.n v s.heap = ((leave pol hp.n v s.heap).1, (leave pol hp.n v s.heap).2))
    have fin : a1.defers = [] ∧ ∃ u, (results fn a1.tmps).run P w1 = .ok u w1 ∧ ∃ cv v h', Ending.returned u = .returned cv ∧ Ψ v h' ∧ After pl M hp w v h' cv w1 :=
      ⟨g3.defers, cv, k1, cv, _, _, rfl, hΨ, pl2, M2, q1, q2, q3, q4⟩
    cases e with
    | exit id => exact absurd rfl (hne id)
    | normal => exact fin
    | ret => exact fin

/-- No package-level variable names an object. -/
def GTop (G : Env) : Prop := ∀ g x, G g = some x → x.top = 0

theorem rep_none {pl : Pl} {M : Mem} {n : Nat} {g : Nat → Option AObj} {w : World} (hr : RepF pl M n g w) : Rep (fun _ => none) M AHeap.none w :=
  ⟨fun _ _ h => by simp at h, fun _ _ _ h => by simp at h, fun _ _ h => by simp at h, fun _ _ _ _ h => by simp at h, hr.imm, fun _ _ h => by simp at h⟩

theorem VRel.none {pl pl' : Pl} {M : Mem} {x : Value} (h : VRel pl M v x) (ht : v.top = 0) : VRel pl' M v x :=
  h.agree (n := 0) (by omega) (fun _ _ h _ => absurd h (Nat.not_lt_zero _)) (fun _ _ h => h)

theorem VRels.none {pl pl' : Pl} {M : Mem} {xs : List AV} {ys : Array Value} (h : VRels pl M xs ys) (ht : AV.tops xs = 0) : VRels pl' M xs ys :=
  ⟨h.len, fun j y hj => (h.at_ j y hj).none (by have := tops_le.1 (Nat.le_of_eq ht) y (List.mem_of_getElem? hj); omega)⟩

theorem GOk.none {pl pl' : Pl} {M : Mem} (hG : GTop G) (h : GOk G pl M) : GOk G pl' M := fun g x hg =>
  ⟨(h g x hg).1.none (by have := hG g x hg; simp [AV.top, AV.tops, this]; rfl), (h g x hg).2⟩

/-- What was run where nothing is shown leaves all as it was. -/
theorem none_step {pl pl' : Pl} {M M' : Mem} {n m : Nat} {g : Nat → Option AObj} {w w' : World} {h1 : AHeap} (hr : RepF pl M n g w) (hr' : Rep pl' M' h1 w') (hs : Step AHeap.none (fun _ => none) M w h1 pl' M' w') :
    RepF pl M' n g w' ∧ StepF m g pl M w g pl M' w' := by
  have kept : ∀ b, b < w.heap.size → w'.heap[b]? = w.heap[b]? := fun b hb => hs.kept b hb (fun id p h => by simp at h)
  refine ⟨⟨hr.dom, fun id p o hp hg => ?_, fun id p hp => Nat.lt_of_lt_of_le (hr.blk id p hp) hs.size, hr.inj, hr'.imm, fun id p hp => ?_⟩, ⟨Ext.refl _, fun _ _ h => h, hs.mem, hs.size, fun b hb _ => kept b hb, fun id p h => .inl ⟨p, h, rfl⟩, fun _ _ _ h => h, fun _ _ h _ => h, hs.memNew, hs.os, hs.tape, hs.out, hs.drawn⟩⟩
  · rw [kept _ (hr.blk id p hp)]
    exact (hr.obj id p o hp hg).mono (Ext.refl _) hs.mem
  · cases hM : M' p.blk with
    | none => rfl
    | some c =>
      rcases hs.memNew _ c hM with k | k
      · rw [hr.sep id p hp] at k; cases k
      · have := hr.blk id p hp; omega

/-- Of plain values a plain value: wherever the call is made. -/
theorem HCall.lift {Ψ : AV → AHeap → Prop} (hG : GTop G) (ht : AV.tops args = 0) (h0 : HCall P G f args AHeap.none Ψ) (hΨ : ∀ v h', Ψ v h' → v.top = 0) (h : AHeap) :
    HCall P G f args h (fun v h' => (∃ h1, Ψ v h1) ∧ h' = h) := by
  intro pl M w vs hg hr hv
  have fin : ∀ v h1 cv w', Ψ v h1 → After (fun _ => none) M AHeap.none w v h1 cv w' → After pl M h w v h cv w' := by
    intro v h1 cv w' hp ⟨pl', M', k1, k2, k3, k4⟩
    obtain ⟨q1, q2⟩ := none_step (m := h.n) hr k2 k3
    exact ⟨pl, M', k1.none (hΨ v h1 hp), q1, q2, Nat.le_refl _⟩
  rcases h0 (fun _ => none) M w vs (hg.none hG) (rep_none hr) (hv.none ht) with ⟨h1, h2⟩ | ⟨cv, w', v, h', h1, h2, h3⟩
  · exact .inl ⟨h1, Calls.mono h2 fun e w' ⟨cv, v, h', k1, k2, k3⟩ => ⟨cv, v, h, k1, ⟨⟨h', k2⟩, rfl⟩, fin v h' cv w' k2 k3⟩⟩
  · exact .inr ⟨cv, w', v, h, h1, ⟨⟨h', h2⟩, rfl⟩, fin v h' cv w' h2 h3⟩

/-- A function of plain values. -/
def HPure (P : Program) (G : Env) (f : FuncId) (args : List AV) (v : AV) : Prop := ∀ h, HCall P G f args h (fun v1 h1 => v1 = v ∧ h1 = h)

theorem HPure.of0 (hG : GTop G) (ht : AV.tops args = 0) (hv : v.top = 0) (h0 : HCall P G f args AHeap.none (fun v1 _ => v1 = v)) : HPure P G f args v := fun h =>
  (HCall.lift hG ht h0 (fun v1 _ e => by rw [e]; exact hv) h).mono fun v1 h1 ⟨⟨_, e1⟩, e2⟩ => ⟨e1, e2⟩

/-- A function of plain values, by its body, run where nothing is shown. -/
theorem HPure.enter {fn : Func} (hG : GTop G) (ht : AV.tops args = 0) (hv : v.top = 0) (hf : P.funcs[f]? = some fn) (hN : (fn.name == "runtime.NumGoroutine") = false) (hb : fn.body = some c) (hn : Nat.ble args.length fn.ntmps = true ∧ Nat.ble fn.ntmps 60000 = true)
    (h : HCode P G (some 0) c ⟨⟨fn.ntmps, argsFr fn.ntmps args 0 .nil⟩, AHeap.none⟩ fun e s => (∀ id, e ≠ .exit id) ∧ ∃ u, oneOrTuple (resultsR P fn.results.toList s.tmps s.heap) = some u ∧ (leave 0 0 u s.heap).1 = v) : HPure P G f args v :=
  HPure.of0 hG ht hv (HCall.enter 0 hf hN hb hn h)

end
end Go.Ev
