/- 'Says less', decided: deep in slices; contracts at arguments that say more; contracts as hooks of a closed run. -/
import Derived.Test.YtakinidhkjpibaaGreatDoorMach7
namespace Go.Ev
open Go

/-- Cell by cell. -/
def LeC (u v : AV) : Prop := (Sc v → Sc u) ∧ Les u.cells v.cells
theorem LeC.refl (v : AV) : LeC v v := ⟨id, Les.refl _⟩
theorem LeC.one {u v : AV} (hu : u.cells = [u]) (hv : v.cells = [v]) (hs : scalB u = true) (h : Le u v) : LeC u v :=
  ⟨fun _ y hy => by rw [hu] at hy; rw [List.mem_singleton.1 hy]; exact hs, by rw [hu, hv]; exact .cons h .nil⟩
inductive LesC : List AV → List AV → Prop
  | nil : LesC [] []
  | cons {u v : AV} {us vs : List AV} (h : LeC u v) (k : LesC us vs) : LesC (u :: us) (v :: vs)
theorem LesC.len {us vs : List AV} (h : LesC us vs) : us.length = vs.length := by
  induction h with
  | nil => rfl
  | cons _ _ ih => simp [ih]
theorem LesC.at_ {us vs : List AV} (h : LesC us vs) : ∀ (j : Nat) (u : AV), us[j]? = some u → ∃ v, vs[j]? = some v ∧ LeC u v := by
  induction h with
  | nil => intro j u h; simp at h
  | cons h k ih =>
    intro j u hj
    cases j with
    | zero => simp at hj; subst hj; exact ⟨_, rfl, h⟩
    | succ j => simpa using ih j u (by simpa using hj)
theorem Le.psC {xs ys : List AV} {t : Bool} (h : LesC xs ys) : Le (.ps xs false) (.ps ys t) := fun pl M v hv => by
  cases hv with
  | @ps _ _ a cap sz c hl ht hm hs hc =>
    rw [← h.len]
    refine .ps (sz := sz) (c := c) (by rw [h.len]; exact hl) (fun h => by cases h) (fun hx => ?_) (fun x hx => ?_) fun i x j y hx hy => ?_
    · have : ys ≠ [] := fun e => hx (List.eq_nil_of_length_eq_zero (by rw [h.len, e]; rfl))
      rw [h.len]; exact hm this
    · obtain ⟨i, hi⟩ := List.getElem?_of_mem hx
      obtain ⟨y, h1, h2, h3⟩ := h.at_ i x hi
      have := hs y (List.mem_of_getElem? h1)
      exact ⟨h3.len.trans this.1, h2 this.2⟩
    · obtain ⟨z, h1, _, h3⟩ := h.at_ i x hx
      obtain ⟨d, h4, h5⟩ := h3.at_ j y hy
      exact h5 _ _ _ (hc i z j d h1 h4)
theorem Le.lsC {xs ys : List AV} {t : Bool} (h : LesC xs ys) (h0 : AV.tops xs = 0) : Le (.ls xs) (.ps ys t) := fun pl M v hv => .lsp (Le.psC h pl M v hv) h0
theorem Le.llC {xs ys : List AV} (h : LesC xs ys) (h0 : AV.tops xs = 0) : Le (.ls xs) (.ls ys) := fun pl M v hv => by
  cases hv with
  | lsn => cases h; exact .lsn
  | lsp hv _ => exact .lsp (Le.psC h pl M v hv) h0
/-- A slice with contents is not nil. -/
theorem Le.pls {x : AV} {xs ys : List AV} (h : LesC (x :: xs) ys) : Le (.ps (x :: xs) false) (.ls ys) := fun pl M v hv => by
  cases hv with
  | lsn => cases h
  | lsp hv _ => exact Le.psC h pl M v hv

mutual
/-- Does 'u' say less than 'v', or the same? -/
def AV.leB : AV → AV → Bool
  | .ls xs, .nils => xs.isEmpty
  | .ls xs, .ps ys _ => AV.leBs xs ys && Nat.beq (AV.tops xs) 0
  | .ls xs, .ls ys => AV.leBs xs ys && Nat.beq (AV.tops xs) 0
  | .ps (x :: xs) false, .ls ys => AV.leBs (x :: xs) ys
  | .ps xs false, .ps ys _ => AV.leBs xs ys
  | .agg us, .agg vs => AV.leBs us vs && us.all scalB
  | u, v => AV.same u v
def AV.leBs : List AV → List AV → Bool
  | [], [] => true
  | a :: us, b :: vs => AV.leB a b && AV.leBs us vs
  | _, _ => false
end
theorem LeC.same {u v : AV} (h : AV.same u v = true) : Le u v ∧ LeC u v := by rw [AV.same_eq _ _ h]; exact ⟨Le.refl _, LeC.refl _⟩
mutual
theorem AV.leB_ok : ∀ (u v : AV), AV.leB u v = true → Le u v ∧ LeC u v := fun u v h => by
  unfold AV.leB at h
  split at h
  · rename_i xs
    have e : xs = [] := by simpa using h
    subst e
    exact ⟨Le.nils, LeC.one rfl rfl rfl Le.nils⟩
  · rename_i xs ys t
    have h := Bool.and_eq_true_iff.1 h
    have k := Le.lsC (t := t) (AV.leBs_ok xs ys h.1).2 (Nat.eq_of_beq_eq_true h.2)
    exact ⟨k, LeC.one rfl rfl rfl k⟩
  · rename_i xs ys
    have h := Bool.and_eq_true_iff.1 h
    have k := Le.llC (AV.leBs_ok xs ys h.1).2 (Nat.eq_of_beq_eq_true h.2)
    exact ⟨k, LeC.one rfl rfl rfl k⟩
  · rename_i x xs ys
    have k := Le.pls (AV.leBs_ok (x :: xs) ys h).2
    exact ⟨k, LeC.one rfl rfl rfl k⟩
  · rename_i xs ys t
    have k := Le.psC (t := t) (AV.leBs_ok xs ys h).2
    exact ⟨k, LeC.one rfl rfl rfl k⟩
  · rename_i us vs
    have h := Bool.and_eq_true_iff.1 h
    have k := AV.leBs_ok us vs h.1
    exact ⟨Le.aggB k.1 h.2, fun _ y hy => List.all_eq_true.1 h.2 y hy, k.1⟩
  · exact LeC.same h
theorem AV.leBs_ok : ∀ (us vs : List AV), AV.leBs us vs = true → Les us vs ∧ LesC us vs := fun us vs h => by
  unfold AV.leBs at h
  split at h
  · exact ⟨.nil, .nil⟩
  · rename_i a us b vs
    have h := Bool.and_eq_true_iff.1 h
    have h1 := AV.leB_ok a b h.1
    have h2 := AV.leBs_ok us vs h.2
    exact ⟨.cons h1.1 h2.1, .cons h1.2 h2.2⟩
  · cases h
end

section
variable {P : Program} {G : Env} {f : FuncId} {a b : List AV} {u v : AV}
/-- A contract at arguments that say more. -/
theorem HPure.args (h : HPure P G f a v) (hl : Les a b) : HPure P G f b v := fun hp pl M w vs hg hr hv => h hp pl M w vs hg hr (hv.le hl)
theorem HPure.argsB (h : HPure P G f a v) (hl : AV.leBs a b = true) : HPure P G f b v := h.args (AV.leBs_ok _ _ hl).1
theorem HPure.lessB (h : HPure P G f a v) (hl : AV.leB u v = true) : HPure P G f a u := h.less (AV.leB_ok _ _ hl).1
/-- Pure contracts as hooks: the function, the arguments, the outcome. -/
def hookL : List (FuncId × List AV × AV) → Hook
  | [], _, _, _ => none
  | x :: r, g, b, h => match Nat.beq g x.1 with
    | true => (match AV.leBs x.2.1 b with | true => some (x.2.2, h) | false => hookL r g b h)
    | false => hookL r g b h
theorem hookL_some : ∀ {L : List (FuncId × List AV × AV)} {g : FuncId} {h h1 : AHeap} {v1 : AV}, hookL L g b h = some (v1, h1) → ∃ x, x ∈ L ∧ g = x.1 ∧ AV.leBs x.2.1 b = true ∧ v1 = x.2.2 ∧ h1 = h
  | [], _, _, _, _, e => by simp [hookL] at e
  | x :: r, g, h, h1, v1, e => by
    unfold hookL at e
    have next : hookL r g b h = some (v1, h1) → ∃ y, y ∈ x :: r ∧ g = y.1 ∧ AV.leBs y.2.1 b = true ∧ v1 = y.2.2 ∧ h1 = h := fun e =>
      let ⟨y, k, q⟩ := hookL_some e
      ⟨y, List.mem_cons_of_mem _ k, q⟩
    cases hb : Nat.beq g x.1 with
    | false => simp only [hb] at e; exact next e
    | true =>
      simp only [hb] at e
      cases hl : AV.leBs x.2.1 b with
      | false => simp only [hl] at e; exact next e
      | true =>
        simp only [hl, Option.some.injEq, Prod.mk.injEq] at e
        exact ⟨x, List.mem_cons_self, Nat.eq_of_beq_eq_true hb, hl, e.1.symm, e.2.symm⟩
theorem hookL_ok {C : Cfg} {L : List (FuncId × List AV × AV)} (hC : C.hook = hookL L) (hL : ∀ x, x ∈ L → HPure C.P C.G x.1 x.2.1 x.2.2) : HookOK C := fun g b hp v1 h1 e pl M w vs hg hr hv => by
  rw [hC] at e
  obtain ⟨x, hx, rfl, hl, rfl, rfl⟩ := hookL_some e
  rcases hL x hx h1 pl M w vs hg hr (hv.le (AV.leBs_ok _ _ hl).1) with ⟨k1, k2⟩ | ⟨cv, w', v2, h2, k1, ⟨rfl, rfl⟩, k3⟩
  · refine .inl ⟨k1, fun cs => ?_⟩
    obtain ⟨en, w', fr, ⟨cv, v2, h2, e1, ⟨rfl, rfl⟩, k3⟩, r⟩ := k2 cs
    exact ⟨en, w', fr, ⟨cv, e1, k3⟩, r⟩
  · exact .inr ⟨cv, w', k1, k3⟩
/-- Is the outcome at least that? -/
def saysV (v : AV) : Option (AV × AHeap) → Bool
  | some (u, _) => AV.leB v u && Nat.beq u.top 0
  | none => false
/-- A closed call, wherever it is made. -/
theorem HPure.closed {C : Cfg} {k : Nat} (hG : GTop C.G) (ev : CallerOK C.P C.G (evFunc C k)) (ht : AV.tops a = 0) (h : saysV v (evFunc C k f a AHeap.none) = true) : HPure C.P C.G f a v := by
  cases hx : evFunc C k f a AHeap.none with
  | none => rw [hx] at h; cases h
  | some r =>
    obtain ⟨u, h1⟩ := r
    rw [hx] at h
    have h := Bool.and_eq_true_iff.1 h
    exact (HPure.of0 hG ht (Nat.eq_of_beq_eq_true h.2) ((HCall.of ev hx).mono fun v1 _ e => e.1)).lessB h.1
end
end Go.Ev
