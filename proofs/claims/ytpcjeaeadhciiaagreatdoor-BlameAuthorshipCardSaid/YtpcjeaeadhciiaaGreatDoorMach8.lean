/- An abstract machine for closed runs and for walks, proved sound against the model: part 8 of 8. No conditions. -/
import Derived.Test.YtpcjeaeadhciiaaGreatDoorMach7

/- Words of a tree and their authors; the words of the units that bear different numbers. -/
namespace Go.Ev
open Go
theorem HPure.ls0 {P : Program} {G : Env} {f : FuncId} {r : List AV} {v : AV} (h1 : HPure P G f (.nils :: r) v) (h2 : HPure P G f (.ps [] false :: r) v) : HPure P G f (.ls [] :: r) v :=
  fun h => HCall.either (fun _ _ _ hv => VRels.first hv fun _ hv => hv.ls0) (h1 h) (h2 h)
theorem allWs_len : ∀ {l : List TUnit}, (∀ k, k ∈ l → (allW k).length ≤ 600 * nU k) → (allWs l).length ≤ 600 * nUs l
  | [], _ => by rw [allWs_nil]; exact Nat.zero_le _
  | k :: r, h => by
    have h1 := h k (List.mem_cons_self ..)
    have h2 := allWs_len fun x hx => h x (List.mem_cons_of_mem _ hx)
    rw [allWs_cons, nUs_cons, List.length_append]; omega
theorem allW_len : ∀ (u : TUnit), okU u → (allW u).length ≤ 600 * nU u := by
  refine TUnit.ind fun u ih hu => ?_
  obtain ⟨h1, h2, _, h4⟩ := okU_iff.1 hu
  have := allWs_len (l := u.kids) fun k hk => ih k hk (h4 k hk)
  rw [allW_eq, nU_eq, List.length_append]
  unfold wordsOf
  rw [List.length_append]; omega
theorem words_len {u : TUnit} (hu : okU u) : (wordsOf u).length ≤ 600 := by
  obtain ⟨h1, h2, _, _⟩ := okU_iff.1 hu
  unfold wordsOf
  rw [List.length_append]; omega
/-- Who wrote the words of a unit. -/
def refOf (w : PWord) : PRef := ⟨w.act, w.item⟩
noncomputable def authorsL (p : PId) (u : TUnit) : List PRef := (wordsOf (findU p u)).map refOf
theorem okU_pre : ∀ (u : TUnit), okU u → ∀ x, x ∈ preU u → okU x := by
  refine TUnit.ind fun u ih hu x hx => ?_
  have hk := (okU_iff.1 hu).2.2.2
  rw [preU_eq] at hx
  rcases List.mem_cons.1 hx with rfl | hx
  · exact hu
  · have key : ∀ (l : List TUnit), (∀ k, k ∈ l → k ∈ u.kids) → x ∈ preUs l → okU x := by
      intro l
      induction l with
      | nil => intro _ h; rw [preUs_nil] at h; cases h
      | cons k r ihr =>
        intro hm h
        rw [preUs_cons, List.mem_append] at h
        rcases h with h | h
        · exact ih k (hm k (List.mem_cons_self ..)) (hk _ (hm k (List.mem_cons_self ..))) x h
        · exact ihr (fun z hz => hm z (List.mem_cons_of_mem _ hz)) h
    exact key u.kids (fun _ h => h) hx
theorem okU_zero : okU zeroU := okU_iff.2 ⟨Nat.zero_le _, Nat.zero_le _, Nat.zero_le _, fun k hk => by cases hk⟩
theorem find_mem {p : PId} {u : TUnit} (h : hasU p u = true) : findU p u ∈ wayU p u := by
  unfold findU
  rw [h]
  have := List.length_pos_iff.2 (hasU_ne h)
  exact gD_mem (by omega)
theorem find_ok {p : PId} {u : TUnit} (hu : okU u) : okU (findU p u) := by
  cases h : hasU p u with
  | true => exact okU_pre u hu _ (way_mem u _ (find_mem h))
  | false => unfold findU; rw [h]; exact okU_zero
theorem allW_pre : ∀ (u : TUnit), allW u = (preU u).flatMap wordsOf := by
  refine TUnit.ind fun u ih => ?_
  rw [allW_eq, preU_eq, List.flatMap_cons]
  congr 1
  have key : ∀ (l : List TUnit), (∀ k, k ∈ l → k ∈ u.kids) → allWs l = (preUs l).flatMap wordsOf := by
    intro l
    induction l with
    | nil => intro _; rw [allWs_nil, preUs_nil]; rfl
    | cons k r ihr =>
      intro hm
      rw [allWs_cons, preUs_cons, List.flatMap_append, ih k (hm k (List.mem_cons_self ..)), ihr fun z hz => hm z (List.mem_cons_of_mem _ hz)]
  exact key u.kids fun _ h => h
/-- The last unit of the way bears the number; it is the first one. -/
theorem way_last {p : PId} : ∀ (u : TUnit), hasU p u = true → idOf (findU p u) = p := by
  refine TUnit.ind fun u ih h => ?_
  unfold findU
  rw [h]
  simp only [cond_true]
  cases hh : isId p u with
  | true => rw [way_hit hh]; exact eqPid_t hh
  | false =>
    have key : ∀ (r : List TUnit), (∀ k, k ∈ r → k ∈ u.kids) → waysU p r ≠ [] → idOf (gD (waysU p r) ((waysU p r).length - 1)) = p := by
      intro r
      induction r with
      | nil => intro _ h; rw [waysU_nil] at h; exact absurd rfl h
      | cons k r ihr =>
        intro hm hne
        cases hk : hasU p k with
        | true =>
          rw [ways_hit hk]
          have := ih k (hm k (List.mem_cons_self ..)) hk
          unfold findU at this
          rw [hk] at this
          exact this
        | false => rw [ways_skip hk] at hne ⊢; exact ihr (fun z hz => hm z (List.mem_cons_of_mem _ hz)) hne
    have k2 := key u.kids fun _ h => h
    obtain ⟨y, t, e⟩ := hasU_t h
    rw [wayU_eq, hh] at e ⊢
    simp only [cond_false] at e ⊢
    cases hw : waysU p u.kids with
    | nil => rw [hw] at e; cases e
    | cons a b =>
      rw [hw] at k2
      have := k2 (List.cons_ne_nil _ _)
      simpa [gD] using this
/-- Whoever is in the tree is found under his number. -/
theorem has_pre {p : PId} : ∀ (u : TUnit), (∃ x, x ∈ preU u ∧ idOf x = p) → hasU p u = true := by
  refine TUnit.ind fun u ih ⟨x, hx, hp⟩ => ?_
  cases hh : isId p u with
  | true => exact has_hit hh
  | false =>
    rw [preU_eq] at hx
    rcases List.mem_cons.1 hx with rfl | hx
    · rw [isId, hp, eqPid_refl] at hh; cases hh
    · have key : ∀ (l : List TUnit), (∀ k, k ∈ l → k ∈ u.kids) → x ∈ preUs l → waysU p l ≠ [] := by
        intro l
        induction l with
        | nil => intro _ h; rw [preUs_nil] at h; cases h
        | cons k r ihr =>
          intro hm h
          rw [preUs_cons, List.mem_append] at h
          cases hk : hasU p k with
          | true => rw [ways_hit hk]; exact hasU_ne hk
          | false =>
            rw [ways_skip hk]
            rcases h with h | h
            · rw [ih k (hm k (List.mem_cons_self ..)) ⟨x, h, hp⟩] at hk; cases hk
            · exact ihr (fun z hz => hm z (List.mem_cons_of_mem _ hz)) h
      have k2 := key u.kids (fun _ h => h) hx
      unfold hasU
      rw [wayU_eq, hh]
      simp only [cond_false]
      cases hw : waysU p u.kids with
      | nil => exact absurd hw k2
      | cons a b => rfl
theorem nodup_inj {α β : Type} {f : α → β} : ∀ {l : List α}, (l.map f).Nodup → ∀ {x y : α}, x ∈ l → y ∈ l → f x = f y → x = y
  | a :: l, h, x, y, hx, hy, e => by
    rw [List.map_cons, List.nodup_cons] at h
    rcases List.mem_cons.1 hx with h1 | h1
    · rcases List.mem_cons.1 hy with h2 | h2
      · exact h1.trans h2.symm
      · exact absurd (List.mem_map.2 ⟨y, h2, (e.symm.trans (congrArg f h1) : f y = f a)⟩) h.1
    · rcases List.mem_cons.1 hy with h2 | h2
      · exact absurd (List.mem_map.2 ⟨x, h1, (e.trans (congrArg f h2) : f x = f a)⟩) h.1
      · exact nodup_inj h.2 h1 h2 e
theorem find_self {u x : TUnit} (hn : (idsU u).Nodup) (hx : x ∈ preU u) : findU (idOf x) u = x := by
  have h := has_pre u ⟨x, hx, rfl⟩
  exact nodup_inj hn (way_mem u _ (find_mem h)) hx (way_last u h)
/-- The sum of the words of all units, by their numbers. -/
theorem authors_sum {u : TUnit} (hn : (idsU u).Nodup) : ((idsU u).map fun p => (authorsL p u).length).sum = (allW u).length := by
  rw [allW_pre, List.length_flatMap, idsU, List.map_map]
  congr 1
  refine List.map_congr_left fun x hx => ?_
  show (authorsL (idOf x) u).length = _
  rw [authorsL, find_self hn hx, List.length_map]
theorem setG_eq {K V : Type} {keq : K → K → Bool} (k : K) (v : V) : ∀ (l : List (K × V)), (setG keq k v l).map (·.1) = if l.any (fun x => keq k x.1) then l.map (·.1) else l.map (·.1) ++ [k]
  | [] => rfl
  | (j, u) :: r => by
    unfold setG
    cases h : keq k j with
    | true => simp [h]
    | false => simp only [cond_false, List.map_cons, setG_eq k v r, List.any_cons, h, Bool.false_or]; split <;> simp
theorem setOf_nodup : ∀ (l : List PId) (m : List (PId × Bool)), (setOf l m).length = m.length + l.length → l.Nodup ∧ ∀ p, p ∈ l → ∀ x, x ∈ m → ¬ x.1 = p
  | [], m, _ => ⟨List.nodup_nil, fun p h => by cases h⟩
  | p :: l, m, h => by
    rw [setOf_cons] at h
    have h1 := setOf_le l (setG eqPid p true m)
    have h2 := setG_le (keq := eqPid) p true m
    simp only [List.length_cons] at h
    have h3 : (setG eqPid p true m).length = m.length + 1 := by omega
    have h4 := setG_eq (keq := eqPid) p true m
    have hany : m.any (fun x => eqPid p x.1) = false := by
      cases ha : m.any (fun x => eqPid p x.1) with
      | false => rfl
      | true => rw [ha] at h4; have := congrArg List.length h4; simp at this; omega
    rw [hany] at h4
    obtain ⟨k1, k2⟩ := setOf_nodup l (setG eqPid p true m) (by omega)
    have hin : ∀ x, x ∈ (setG eqPid p true m).map (·.1) ↔ x ∈ m.map (·.1) ∨ x = p := fun x => by rw [h4]; simp
    have hp : ¬ p ∈ l := fun hp => by
      obtain ⟨x, hx, hxe⟩ := List.mem_map.1 ((hin p).2 (.inr rfl))
      exact k2 p hp x hx hxe
    refine ⟨List.nodup_cons.2 ⟨hp, k1⟩, fun q hq x hx he => ?_⟩
    rcases List.mem_cons.1 hq with rfl | hq
    · have := List.any_eq_false.1 hany x hx
      rw [he, eqPid_refl] at this
      exact this rfl
    · obtain ⟨y, hy, hye⟩ := List.mem_map.1 ((hin x.1).2 (.inl (List.mem_map.2 ⟨x, hx, rfl⟩)))
      exact k2 q hq y hy (hye.trans he)
theorem setOf_all : ∀ (l : List PId) (m : List (PId × Bool)) (p : PId), p ∈ l ∨ p ∈ m.map (·.1) → p ∈ (setOf l m).map (·.1)
  | [], m, p, h => by rcases h with h | h; cases h; exact h
  | q :: l, m, p, h => by
    rw [setOf_cons]
    refine setOf_all l _ p ?_
    have h4 := setG_eq (keq := eqPid) q true m
    rcases h with h | h
    · rcases List.mem_cons.1 h with rfl | h
      · right; rw [h4]; split
        · rename_i ha
          obtain ⟨x, hx, he⟩ := List.any_eq_true.1 ha
          exact List.mem_map.2 ⟨x, hx, (eqPid_t he).symm⟩
        · simp
      · exact .inl h
    · right; rw [h4]; split
      · exact h
      · exact List.mem_append_left _ h
theorem entsG_len {K V : Type} {kenc : K → AV} {f : V → AV} : ∀ (l : List (K × V)) (i : Nat), (entsG kenc f l i).length = l.length
  | [], _ => rfl
  | (k, v) :: r, i => by rw [entsG, List.length_cons, entsG_len r, List.length_cons]
theorem setOf_nil (m : List (PId × Bool)) : setOf [] m = m := rfl
theorem eqI_nz {n : Nat} (h : 0 < n) : eqI (Int.ofNat n) 0 = false := by
  rw [eqI_iff]; exact decide_eq_false (by simp only [Int.ofNat_eq_natCast]; omega)
theorem inS_mem : ∀ {m : List (PId × Bool)} {p : PId}, inS eqPid p m = true → p ∈ m.map (·.1)
  | [], p, h => by cases h
  | (j, b) :: r, p, h => by
    unfold inS getG at h
    cases e : eqPid p j with
    | true => rw [eqPid_t e]; exact List.mem_cons_self ..
    | false => rw [e] at h; exact List.mem_cons_of_mem _ (inS_mem h)
/-- Valid numbers: distinct, or all zero. -/
theorem idsB_cases {u : TUnit} (h : idsB u = true) : (idsU u).Nodup ∨ ∀ p, p ∈ idsU u → p = zeroId := by
  unfold idsB at h
  rcases Bool.or_eq_true_iff.1 h with h | h
  · right
    obtain ⟨h1, h2⟩ := Bool.and_eq_true_iff.1 h
    have h3 : (setOf (idsU u) []).length = 1 := by have := eqI_t h2; simp only [Int.ofNat_eq_natCast] at this; omega
    have h4 := inS_mem h1
    intro p hp
    have h5 := setOf_all (idsU u) [] p (.inl hp)
    match hs : setOf (idsU u) [], h3 with
    | [x], _ =>
      rw [hs] at h4 h5
      simp only [List.map_cons, List.map_nil, List.mem_singleton] at h4 h5
      rw [h5, h4]
  · left
    obtain ⟨h1, _⟩ := Bool.and_eq_true_iff.1 h
    have h2 : (setOf (idsU u) []).length = (idsU u).length := by have := eqI_t h1; simp only [Int.ofNat_eq_natCast] at this; omega
    exact (setOf_nodup (idsU u) [] (by simpa using h2)).1
theorem pre_trans0 {y x : TUnit} : ∀ (u : TUnit), y ∈ preU u → x ∈ preU y → x ∈ preU u := by
  refine TUnit.ind fun u ih h hx => ?_
  rw [preU_eq] at h ⊢
  rcases List.mem_cons.1 h with rfl | h
  · rwa [preU_eq] at hx
  · refine List.mem_cons_of_mem _ ?_
    have key : ∀ (l : List TUnit), (∀ k, k ∈ l → k ∈ u.kids) → y ∈ preUs l → x ∈ preUs l := by
      intro l
      induction l with
      | nil => intro _ h; rw [preUs_nil] at h; cases h
      | cons k r ihr =>
        intro hm h
        rw [preUs_cons, List.mem_append] at h ⊢
        rcases h with h | h
        · exact .inl (ih k (hm k (List.mem_cons_self ..)) h hx)
        · exact .inr (ihr (fun z hz => hm z (List.mem_cons_of_mem _ hz)) h)
    exact key u.kids (fun _ h => h) h
theorem pre_trans {y x u : TUnit} (h : y ∈ preU u) (hx : x ∈ preU y) : x ∈ preU u := pre_trans0 u h hx
theorem pre_len0 {x : TUnit} : ∀ (u : TUnit), x ∈ preU u → nU x ≤ nU u := by
  refine TUnit.ind fun u ih h => ?_
  rw [preU_eq] at h
  rcases List.mem_cons.1 h with rfl | h
  · exact Nat.le_refl _
  · have key : ∀ (l : List TUnit), (∀ k, k ∈ l → k ∈ u.kids) → x ∈ preUs l → nU x < nU u := by
      intro l
      induction l with
      | nil => intro _ h; rw [preUs_nil] at h; cases h
      | cons k r ihr =>
        intro hm h
        rw [preUs_cons, List.mem_append] at h
        rcases h with h | h
        · exact Nat.lt_of_le_of_lt (ih k (hm k (List.mem_cons_self ..)) h) (nU_kid (hm k (List.mem_cons_self ..)))
        · exact ihr (fun z hz => hm z (List.mem_cons_of_mem _ hz)) h
    exact Nat.le_of_lt (key u.kids (fun _ h => h) h)
theorem pre_len {x u : TUnit} (h : x ∈ preU u) : nU x ≤ nU u := pre_len0 u h
theorem drop_end {α : Type} {l : List α} {i : Nat} (h : l.length ≤ i) : l.drop i = [] := List.drop_eq_nil_of_le h
section
variable {p : PId} {u w : TUnit} {r : List TUnit}
theorem find_hit (h : isId p u = true) : findU p u = u := by unfold findU; rw [has_hit h, way_hit h]; rfl
theorem find_none (h : isId p u = false) (h2 : waysU p u.kids = waysU p []) : findU p u = zeroU := by unfold findU; rw [has_miss h h2]; rfl
theorem find_via (h : isId p u = false) (h2 : waysU p u.kids = waysU p (w :: r)) (h3 : hasU p w = true) : findU p u = findU p w := by
  unfold findU
  rw [has_via h h2 h3, way_via h h2 h3, h3]
  have := List.length_pos_iff.2 (hasU_ne h3)
  simp only [cond_true, List.length_cons]
  rw [show (wayU p w).length + 1 - 1 = ((wayU p w).length - 1) + 1 by omega]
  rfl
end
/-- The sum of the counts; what was told of an act. -/
def sumB : List PPair → Int
  | [] => 0
  | p :: r => p.b + sumB r
def toldB (k : Int) : List PPair → Int → Int
  | [], t => t
  | p :: r, t => toldB k r (bif eqI p.a k then p.b else t)
end Go.Ev
