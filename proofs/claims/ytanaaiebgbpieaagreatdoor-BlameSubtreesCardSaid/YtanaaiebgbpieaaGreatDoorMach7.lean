/- An abstract machine for closed runs and for walks, proved sound against the model: part 7 of 7. No conditions. -/
import Derived.Test.YtanaaiebgbpieaaGreatDoorMach6
import Derived.Shelf.SortM.Plain
import Derived.Shelf.SortM.SortNone
import Derived.Shelf.SlSortCmp.NoneTotal
import Derived.Shelf.SlicesG.CompactI
import Derived.Lib.QuietBelow
import GoSem.ClaimJoined

/- Maps whose keys are written by a function: finding, looking up, changing. -/
namespace Go.Ev
open Go

/-- Keys that are written by 'kenc' and compared by 'keq'. -/
structure KeyOf (K : Type) (ag : Bool) (sz : Nat) (lv : List (Nat × Nat)) (kenc : K → AV) (keq : K → K → Bool) : Prop where
  eq : ∀ a b, keyEq ag sz lv (kenc a) (kenc b) = some (keq a b)
  t : ∀ a b, keq a b = true → a = b
  refl : ∀ a, keq a a = true
  same : ∀ a, keySame (kenc a) (kenc a) = true
  top : ∀ a, (kenc a).top = 0

section
variable {K V : Type} {ag : Bool} {sz : Nat} {lv : List (Nat × Nat)} {kenc : K → AV} {keq : K → K → Bool} {f : V → AV}
noncomputable def entsG (kenc : K → AV) (f : V → AV) : List (K × V) → Nat → List AEnt
  | [], _ => []
  | (k, v) :: r, i => ⟨kenc k, f v, i⟩ :: entsG kenc f r (i + 1)
def getG (keq : K → K → Bool) (k : K) : List (K × V) → Option V
  | [] => none
  | (j, v) :: r => match keq k j with | true => some v | false => getG keq k r
def setG (keq : K → K → Bool) (k : K) (v : V) : List (K × V) → List (K × V)
  | [] => [(k, v)]
  | (j, u) :: r => match keq k j with | true => (j, v) :: r | false => (j, u) :: setG keq k v r
theorem find_entsG (hk : KeyOf K ag sz lv kenc keq) (k : K) : ∀ (l : List (K × V)) (i : Nat), findEnt ag sz lv (kenc k) (entsG kenc f l i) i = some (match getG keq k l with | none => none | some v => some (i + (l.takeWhile fun p => !(keq k p.1)).length, ⟨kenc k, f v, i + (l.takeWhile fun p => !(keq k p.1)).length⟩))
  | [], i => rfl
  | (j, v) :: r, i => by
    simp only [entsG, findEnt, hk.eq, getG]
    cases h : keq k j with
    | true =>
      have hj := hk.t _ _ h
      subst hj
      simp [findThen, List.takeWhile, h]
    | false =>
      simp only [findThen, find_entsG hk k r (i + 1), List.takeWhile, h, Bool.not_false]
      cases getG keq k r with
      | none => rfl
      | some u => simp only [List.length_cons]; rw [show ∀ d, i + 1 + d = i + (d + 1) from fun d => by omega]
theorem look_entsG (hk : KeyOf K ag sz lv kenc keq) (z : Option AV) (ok : Bool) (k : K) (l : List (K × V)) : lookupE z ok (findEnt ag sz lv (kenc k) (entsG kenc f l 0) 0) = match getG keq k l with | none => withOk ok z false | some v => withOk ok (some (f v)) true := by
  rw [find_entsG hk]
  cases getG keq k l with
  | none => rfl
  | some v => rfl
theorem entsG_append (l r : List (K × V)) : ∀ (i : Nat), entsG kenc f (l ++ r) i = entsG kenc f l i ++ entsG kenc f r (i + l.length) := by
  induction l with
  | nil => intro i; rfl
  | cons x l ih =>
    intro i
    obtain ⟨j, v⟩ := x
    simp only [List.cons_append, entsG, ih, List.length_cons, List.cons.injEq, true_and, List.append_cancel_left_eq]
    congr 1; omega
theorem setG_none {k : K} {v : V} : ∀ {l : List (K × V)}, getG keq k l = none → setG keq k v l = l ++ [(k, v)]
  | [], _ => rfl
  | (j, u) :: r, h => by
    simp only [getG] at h
    cases q : keq k j with
    | true => rw [q] at h; cases h
    | false => rw [q] at h; simp only [setG, q, List.cons_append, setG_none h]
theorem setG_len {k : K} {v u : V} : ∀ {l : List (K × V)}, getG keq k l = some u → (setG keq k v l).length = l.length
  | (j, w) :: r, h => by
    simp only [getG] at h
    cases q : keq k j with
    | true => simp only [setG, q, List.length_cons]
    | false => rw [q] at h; simp only [setG, q, List.length_cons, setG_len h]
theorem entsG_set (hk : KeyOf K ag sz lv kenc keq) {k : K} {v u : V} : ∀ {l : List (K × V)} (i : Nat), getG keq k l = some u →
    (entsG kenc f l i).set (l.takeWhile fun p => !(keq k p.1)).length ⟨kenc k, f v, i + (l.takeWhile fun p => !(keq k p.1)).length⟩ = entsG kenc f (setG keq k v l) i
  | (j, w) :: r, i, h => by
    simp only [getG] at h
    cases q : keq k j with
    | true => have hj := hk.t _ _ q; subst hj; simp [entsG, setG, List.takeWhile, q]
    | false =>
      rw [q] at h
      simp only [entsG, setG, List.takeWhile, q, Bool.not_false, List.length_cons, List.set_cons_succ, List.cons.injEq, true_and]
      rw [← entsG_set hk (i + 1) h]
      congr 2
      all_goals (first | rfl | omega)
theorem upd_entsG (hk : KeyOf K ag sz lv kenc keq) (k : K) (v : V) (l : List (K × V)) : updE (entsG kenc f l 0) l.length (kenc k) (f v) (findEnt ag sz lv (kenc k) (entsG kenc f l 0) 0) = some (entsG kenc f (setG keq k v l) 0, (setG keq k v l).length) := by
  rw [find_entsG hk]
  cases h : getG keq k l with
  | none =>
    simp only [updE, setG_none h, entsG_append, entsG, List.length_append, List.length_singleton, Nat.zero_add]
  | some u =>
    have := entsG_set (f := f) (v := v) hk 0 h
    simp only [Nat.zero_add] at this ⊢
    simp only [updE, hk.same, this, setG_len h]
theorem entsG_top (hk : KeyOf K ag sz lv kenc keq) (hf : ∀ v, (f v).top = 0) : ∀ (l : List (K × V)) (i : Nat), entTops (entsG kenc f l i) = 0
  | [], _ => rfl
  | (j, v) :: r, i => by simp only [entsG, entTops, hk.top, hf v, entsG_top hk hf r, mx00]

/-! A range over such a map. -/
variable [Inhabited K] [Inhabited V] {l : List (K × V)} {seen : List Nat}
theorem entsG_at : ∀ {l : List (K × V)} {n i : Nat}, i < l.length → (⟨kenc (gD l i).1, f (gD l i).2, n + i⟩ : AEnt) ∈ entsG kenc f l n
  | (k, v) :: r, n, 0, _ => by simp [entsG, gD]
  | (k, v) :: r, n, i + 1, h => by
    have := entsG_at (l := r) (n := n + 1) (i := i) (by simpa using h)
    have e : n + 1 + i = n + (i + 1) := by omega
    rw [e] at this
    simp only [entsG, List.mem_cons]
    exact .inr this
theorem entsG_mem {e : AEnt} : ∀ {l : List (K × V)} {n : Nat}, e ∈ entsG kenc f l n → ∃ i, i < l.length ∧ e = ⟨kenc (gD l i).1, f (gD l i).2, n + i⟩
  | [], _, h => by simp [entsG] at h
  | (k, v) :: r, n, h => by
    simp only [entsG, List.mem_cons] at h
    rcases h with h | h
    · exact ⟨0, by simp, by rw [h]; simp [gD]⟩
    · obtain ⟨i, h1, h2⟩ := entsG_mem h
      exact ⟨i + 1, by simpa using h1, by rw [h2, show n + 1 + i = n + (i + 1) from by omega]; rfl⟩
theorem entsG_next : l.length = l.length ∧ ∀ e, e ∈ entsG kenc f l 0 → e.born < l.length ∧ (e.born ∈ seen ∨ ∃ y, (y < l.length ∧ ¬ y ∈ seen) ∧ e.key = kenc (gD l y).1 ∧ e.val = f (gD l y).2 ∧ e.born = y) :=
  ⟨rfl, fun e h => by
    obtain ⟨i, h1, h2⟩ := entsG_mem h
    subst h2
    refine ⟨by simpa using h1, ?_⟩
    by_cases q : i ∈ seen
    · exact .inl (by simpa using q)
    · exact .inr ⟨i, ⟨h1, q⟩, rfl, rfl, by simp⟩⟩
theorem entsG_done (h : ∀ e, e ∈ entsG kenc f l 0 → e.born ∈ seen) : ∀ i, i < l.length → i ∈ seen := fun i hi => by
  have := h _ (entsG_at hi)
  simpa using this
theorem lastN_end : ∀ (s : List Nat) (i : Nat), lastN (s ++ [i]) = some i
  | [], _ => rfl
  | [_], _ => rfl
  | x :: y :: r, i => lastN_end (y :: r) i
theorem findBorn_entsG : ∀ {l : List (K × V)} {n i : Nat}, i < l.length → findBorn (n + i) (entsG kenc f l n) = some ⟨kenc (gD l i).1, f (gD l i).2, n + i⟩
  | (k, v) :: r, n, 0, _ => by simp [entsG, gD, findBorn]
  | (k, v) :: r, n, i + 1, h => by
    have e : Nat.beq n (n + (i + 1)) = false := by
      cases q : Nat.beq n (n + (i + 1)) with
      | false => rfl
      | true => have := Nat.eq_of_beq_eq_true q; omega
    simp only [entsG, findBorn, e]
    have := findBorn_entsG (l := r) (n := n + 1) (i := i) (by simpa using h)
    rw [show n + 1 + i = n + (i + 1) from by omega] at this
    rw [this]; rfl
theorem entsG_entry {s : List Nat} {i : Nat} (h : i < l.length) : l.length = l.length ∧ entV (bornO (entsG kenc f l 0) (lastN (s ++ [i]))) = some (.tuple [kenc (gD l i).1, f (gD l i).2]) :=
  ⟨rfl, by
    rw [lastN_end]
    have := findBorn_entsG (kenc := kenc) (f := f) (l := l) (n := 0) h
    rw [Nat.zero_add] at this
    simp only [bornO, this, entV]⟩
end
section
variable {V : Type} {f : V → AV} [Inhabited V] {l : List (Int × V)} {seen : List Nat}
omit [Inhabited V] in
theorem entsI_G : ∀ (l : List (Int × V)) (n : Nat), entsI f l n = entsG (.int .i64 ·) f l n
  | [], _ => rfl
  | (k, v) :: r, n => by simp only [entsI, entsG, entsI_G r]
theorem entsI_next : l.length = l.length ∧ ∀ e, e ∈ entsI f l 0 → e.born < l.length ∧ (e.born ∈ seen ∨ ∃ y, (y < l.length ∧ ¬ y ∈ seen) ∧ e.key = .int .i64 (gD l y).1 ∧ e.val = f (gD l y).2 ∧ e.born = y) := by
  rw [entsI_G]; exact entsG_next
theorem entsI_done (h : ∀ e, e ∈ entsI f l 0 → e.born ∈ seen) : ∀ i, i < l.length → i ∈ seen := by
  rw [entsI_G] at h; exact entsG_done h
theorem entsI_entry {s : List Nat} {i : Nat} (h : i < l.length) : l.length = l.length ∧ entV (bornO (entsI f l 0) (lastN (s ++ [i]))) = some (.tuple [.int .i64 (gD l i).1, f (gD l i).2]) := by
  rw [entsI_G]; exact entsG_entry h
end

/-- Keys of two numbers. -/
noncomputable def encII (p : Int × Int) : AV := .agg [.int .i64 p.1, .int .i64 p.2]
def eqII (a b : Int × Int) : Bool := eqI a.1 b.1 && eqI a.2 b.2
theorem keyII : KeyOf (Int × Int) true 2 [(0, 1), (1, 1)] encII eqII where
  eq a b := by
    show eqL [.int .i64 a.1, .int .i64 a.2] [.int .i64 b.1, .int .i64 b.2] [(0, 1), (1, 1)] = _
    simp only [eqL, nth, eqO, eqS, kindB, eqII]
    cases h1 : eqI a.1 b.1 <;> cases h2 : eqI a.2 b.2 <;> rfl
  t a b h := by
    simp only [eqII, Bool.and_eq_true] at h
    exact Prod.ext (eqI_t h.1) (eqI_t h.2)
  refl a := by simp [eqII, eqI_refl]
  same a := by simp [encII, keySame, plainSames, plainSame, kindB, eqI_refl]
  top a := rfl
end Go.Ev

/- The library's sorts as contracts: out of the kit's own statements over worlds. -/
namespace Go.Ev
open Go Go.Sort Go.Proofs

section
variable {P : Program} {G : Env} {pl : Pl} {M : Mem} {h : AHeap} {w w' : World}

/-- A row laid anew in its own block. -/
theorem Rep.rowNew (hr : Rep pl M h w) {id : Nat} {p : Place} {sz : Nat} {op : Bool} {ep : Nat} {xs xs' : List AV} {c c' : Array Value} {t : TypeId} (hp : pl id = some p) (hg : h.get id = some (.row sz op ep xs))
    (hb : w.heap[p.blk]? = some (.cells c t (0, 0))) (hw : w'.heap[p.blk]? = some (.cells c' t (0, 0))) (hcs : c'.size = c.size) (hlen : xs'.length = xs.length) (hel : ∀ x, x ∈ xs' → x.cells.length = sz ∧ Sc x)
    (hcell : ∀ i x j y, xs'[i]? = some x → x.cells[j]? = some y → VRel pl M y (c'.getD (i * sz + j) undef)) (hs : WSame w w') (hsz : w.heap.size ≤ w'.heap.size) (hk : ∀ b, b < w.heap.size → b ≠ p.blk → w'.heap[b]? = w.heap[b]?) :
    Rep pl M (h.put id (.row sz op ep xs')) w' ∧ Step h pl M w (h.put id (.row sz op ep xs')) pl M w' := by
  have ho := hr.obj id p _ hp hg
  rw [hb] at ho
  simp only [ObjRel] at ho
  obtain ⟨h1, h2, h3, h4, h5, h6, h7, h8⟩ := ho
  have e := upd_eq (pl := pl) hp
  have := Rep.change (p' := p) (o' := .row sz op ep xs') hr hp hg (.inl rfl) hs hsz hk (.inl rfl) (Array.getElem?_eq_some_iff.1 hw).1 (by
    rw [e, hw]
    simp only [ObjRel]
    refine ⟨h1, h2, by omega, by omega, trivial, h6, fun e => by rw [hcs, h7 e, hlen], ⟨?_, hel, fun i x j y q1 q2 => ?_⟩⟩
    · have := h8.fit; rw [hlen, hcs]; exact this
    · rw [Nat.zero_add]; exact hcell i x j y q1 q2)
  rwa [e] at this

variable {β : Type} [Inhabited β]

theorem grow_put_at {enc : β → Value} {blk off n : Nat} {d : Array β} {os : Array Obj} {c : Array Value} {t : TypeId} {fr : Nat × Nat} (hb : w.heap[blk]? = some (.cells c t fr)) :
    (grow (putRow enc (Sort.ahead w n) blk off d) os).heap[blk]? = some (.cells (putCells enc off d c) t fr) := by
  have hlt := (Array.getElem?_eq_some_iff.1 hb).1
  simp only [grow, putRow, mapBlock, Sort.ahead]
  rw [Array.getElem?_append_left (by simpa using hlt), Array.getElem?_modify, hb]
  simp [onCells]

theorem grow_put_other {enc : β → Value} {blk off n : Nat} {d : Array β} {os : Array Obj} {b : Nat} (hb : b < w.heap.size) (hne : b ≠ blk) :
    (grow (putRow enc (Sort.ahead w n) blk off d) os).heap[b]? = w.heap[b]? := by
  simp only [grow, putRow, mapBlock, Sort.ahead]
  rw [Array.getElem?_append_left (by simpa using hb), Array.getElem?_modify, if_neg (fun e => hne e.symm)]

theorem grow_put_same {enc : β → Value} {blk off n : Nat} {d : Array β} {os : Array Obj} : WSame w (grow (putRow enc (Sort.ahead w n) blk off d) os) := ⟨rfl, rfl, rfl, Nat.le_add_right _ _⟩

theorem grow_put_size {enc : β → Value} {blk off n : Nat} {d : Array β} {os : Array Obj} : w.heap.size ≤ (grow (putRow enc (Sort.ahead w n) blk off d) os).heap.size := by
  simp [grow, putRow, mapBlock, Sort.ahead]

theorem putCells_getD {enc : β → Value} {d : Array β} {c : Array Value} {k : Nat} (hk : k < d.size) (hc : k < c.size) : (putCells enc 0 d c).getD k undef = enc d[k]! := by
  simp [putCells, Array.getD_eq_getD_getElem?, Array.getElem?_mapIdx, hk, hc]

/-- A slice of a whole row that is not empty. -/
theorem slice_whole (hr : Rep pl M h w) {id ep len sz : Nat} {op : Bool} {cap : Option Nat} {xs : List AV} {x : Value} (hv : VRel pl M (.slice id ep 0 len cap) x) (hg : h.get id = some (.row sz op ep xs)) (hl : 0 < len) :
    ∃ p c t cap', pl id = some p ∧ w.heap[p.blk]? = some (.cells c t (0, 0)) ∧ x = .slice (some ⟨p.blk, 0, none⟩) len cap' ∧ InMem pl M c 0 sz xs ∧ 0 < sz ∧ p.blk < w.heap.size := by
  cases hv with
  | slice hp he hle hk ha =>
    rename_i cap' a p
    have ho := hr.obj id p _ hp hg
    cases hb : w.heap[p.blk]? with
    | none => rw [hb] at ho; simp [ObjRel] at ho
    | some ob =>
      rw [hb] at ho
      cases ob <;> simp only [ObjRel] at ho
      rename_i c t fr
      obtain ⟨h1, h2, h3, h4, h5, h6, h7, h8⟩ := ho
      subst h5
      obtain ⟨k1, _⟩ := ha (by omega)
      have k2 : a = ⟨p.blk, 0, none⟩ := by
        rcases k1 with k | k
        · omega
        · rw [k, Nat.zero_mul]
      exact ⟨p, c, t, _, hp, hb, by rw [k2], h8, h6, (Array.getElem?_eq_some_iff.1 hb).1⟩

theorem args1 {x : AV} {vs : Array Value} (hv : VRels pl M [x] vs) : ∃ a, vs = #[a] ∧ VRel pl M x a := by
  obtain ⟨l⟩ := vs
  match l, hv with
  | [a], hv => exact ⟨a, rfl, hv.at_ 0 x rfl⟩
  | [], hv => have := hv.len; simp at this
  | _ :: _ :: _, hv => have := hv.len; simp at this
theorem args2 {x y : AV} {vs : Array Value} (hv : VRels pl M [x, y] vs) : ∃ a b, vs = #[a, b] ∧ VRel pl M x a ∧ VRel pl M y b := by
  obtain ⟨l⟩ := vs
  match l, hv with
  | [a, b], hv => exact ⟨a, b, rfl, hv.at_ 0 x rfl, hv.at_ 1 y rfl⟩
  | [], hv => have := hv.len; simp at this
  | [_], hv => have := hv.len; simp at this
  | _ :: _ :: _ :: _, hv => have := hv.len; simp at this
theorem rel_func {f : Fn} {a : Value} (hv : VRel pl M (.func f [] []) a) : a = .func f #[] #[] := by
  cases hv with
  | func h1 h2 h3 h4 =>
    rename_i vs ws
    have e1 : vs = #[] := Array.eq_empty_of_size_eq_zero h1.symm
    have e2 : ws = #[] := Array.eq_empty_of_size_eq_zero h2.symm
    rw [e1, e2]

def sortZ (zs : List Int) : List Int := zs.mergeSort fun x y => decide (x ≤ y)
theorem sortZ_perm (zs : List Int) : (sortZ zs).Perm zs := List.mergeSort_perm ..
theorem sortZ_sorted (zs : List Int) : (sortZ zs).Pairwise (fun a b => a ≤ b) := by
  have := List.pairwise_mergeSort (le := fun x y : Int => decide (x ≤ y)) (by intro a b c; simp; omega) (by intro a b; simp; omega) zs
  exact this.imp (by simp)

theorem inMem_get {c : Array Value} {sz : Nat} {xs : List AV} (hm : InMem pl M c 0 sz xs) {i : Nat} {x : AV} (hx : xs[i]? = some x) {j : Nat} (hj : j < sz) : i * sz + j < c.size ∧ ∃ y, x.cells[j]? = some y ∧ VRel pl M y (c.getD (i * sz + j) undef) := by
  have h1 := hm.fit
  have hi := (List.getElem?_eq_some_iff.1 hx).1
  have h2 := (hm.elem x (List.mem_of_getElem? hx)).1
  have h3 : (i + 1) * sz ≤ xs.length * sz := Nat.mul_le_mul_right _ hi
  rw [Nat.add_mul] at h3
  refine ⟨by omega, x.cells[j], by rw [List.getElem?_eq_getElem], ?_⟩
  have := hm.cell i x j _ hx (List.getElem?_eq_getElem (by omega : j < x.cells.length))
  rwa [Nat.zero_add] at this

theorem tuple_rel : VRel pl M (.tuple []) (.tuple #[]) := .tuple rfl fun j y h => by simp at h

/-- slices.Sort of numbers, by what the kit says of it. -/
theorem sortInts_call {f : FuncId} (hE : ∀ vs w, (callFunc f vs).run P w = .ok (.enter f vs) w)
    (hC : ∀ (blk off cap : Nat) (zs : List Int) (w : World), Holds (Value.int .i64) w blk off zs.toArray → blk < w.heap.size → zs.length < 4611686018427387904 →
      Calls P f #[.slice (some ⟨blk, off, none⟩) zs.length cap] w fun e w' => e = .returned (.tuple #[]) ∧ ∃ n os, w' = grow (putRow (Value.int .i64) (Sort.ahead w n) blk off (zs.mergeSort fun x y => decide (x ≤ y)).toArray) os)
    {id ep : Nat} {op : Bool} {cap : Option Nat} (zs : List Int) (hg : h.get id = some (.row 1 op ep (zs.map encInt))) (hz : 0 < zs.length) (hb : zs.length < 4611686018427387904) :
    HCall P G f [.slice id ep 0 zs.length cap] h (fun v h' => v = .tuple [] ∧ h' = h.put id (.row 1 op ep ((sortZ zs).map encInt))) := by
  intro pl M w vs hG hr hv
  obtain ⟨a, rfl, hv1⟩ := args1 hv
  obtain ⟨p, c, t, cap', hp, hbl, rfl, hm, _, hlt⟩ := slice_whole hr hv1 hg hz
  have hcell : ∀ j z, zs[j]? = some z → j < c.size ∧ c.getD j undef = .int .i64 z := by
    intro j z hj
    have hx : (zs.map encInt)[j]? = some (encInt z) := by rw [List.getElem?_map, hj]; rfl
    obtain ⟨q1, y, q2, q3⟩ := inMem_get hm hx (j := 0) (by omega)
    rw [Nat.mul_one, Nat.add_zero] at q1 q3
    simp [encInt, AV.cells] at q2
    subst q2
    refine ⟨q1, ?_⟩
    cases hq : c.getD j undef <;> rw [hq] at q3 <;> cases q3
    rfl
  refine .inl ⟨hE _ _, Calls.mono (hC p.blk 0 cap' zs w (fun j hj => ?_) hlt hb) fun e w' ⟨he, n, os, hw⟩ => ?_⟩
  · have hj' : j < zs.length := by simpa using hj
    obtain ⟨q1, q2⟩ := hcell j zs[j] (List.getElem?_eq_getElem hj')
    rw [Nat.zero_add]
    refine ⟨?_, ?_⟩
    · simp only [World.cell?, hbl]
      simp only [Option.isSome_none, Bool.false_eq_true, if_false]
      rw [Array.getElem?_eq_getElem q1]
      have : c.getD j undef = c[j] := by simp [Array.getD, q1]
      rw [← this, q2]
      simp [hj']
    · simp [World.frozen?, hbl]
  · refine ⟨.tuple #[], .tuple [], _, he, ⟨rfl, rfl⟩, pl, M, tuple_rel, ?_⟩
    have hlen : (sortZ zs).length = zs.length := (sortZ_perm zs).length_eq
    have hw1 : w'.heap[p.blk]? = some (.cells (putCells (Value.int .i64) 0 (sortZ zs).toArray c) t (0, 0)) := by rw [hw]; exact grow_put_at hbl
    obtain ⟨r1, r2⟩ := Rep.rowNew (w' := w') (xs' := (sortZ zs).map encInt) hr hp hg hbl hw1 (by simp [putCells]) (by simp [hlen]) (fun x hx => by
        obtain ⟨z, _, rfl⟩ := List.mem_map.1 hx
        exact ⟨rfl, fun y hy => by simp [encInt, AV.cells] at hy; subst hy; rfl⟩) (fun i x j y q1 q2 => by
        rw [List.getElem?_map] at q1
        obtain ⟨z, e1, rfl⟩ := Option.map_eq_some_iff.1 q1
        have hi := (List.getElem?_eq_some_iff.1 e1).1
        cases j with
        | succ j => simp [encInt, AV.cells] at q2
        | zero =>
          simp [encInt, AV.cells] at q2
          subst q2
          rw [Nat.mul_one, Nat.add_zero, putCells_getD (by simpa using hi) (hcell i zs[i] (List.getElem?_eq_getElem (by omega))).1]
          have : (sortZ zs).toArray[i]! = z := by simp [e1]
          rw [this]; exact .int _ _) (by rw [hw]; exact grow_put_same) (by rw [hw]; exact grow_put_size) (fun b hb hne => by rw [hw]; exact grow_put_other hb hne)
    exact ⟨r1, r2, Nat.le_refl _⟩

def compactZ (zs : List Int) : List Int := Lib.compact zs
theorem compactZ_le (zs : List Int) : (compactZ zs).length ≤ zs.length := by
  unfold compactZ Lib.compact Lib.compactUpTo
  rw [List.length_map]
  exact Nat.le_trans (List.length_filter_le ..) (by simp)

/-- slices.Compact of numbers, by what the kit says of it. -/
theorem compactInts_call {f : FuncId} (hE : ∀ vs w, (callFunc f vs).run P w = .ok (.enter f vs) w)
    (hC : ∀ (blk off cap : Nat) (zs : List Int) (w : World), Holds (Value.int .i64) w blk off zs.toArray → zs.length ≤ 9223372036854775807 → zs.length ≤ cap →
      Calls P f #[.slice (some ⟨blk, off, none⟩) zs.length cap] w fun e w' => e = .returned (.slice (some ⟨blk, off, none⟩) (Lib.compact zs).length cap) ∧ ∃ q, w' = putRow (Value.int .i64) (Sort.ahead w q) blk off (Lib.compact zs ++ List.replicate (zs.length - (Lib.compact zs).length) 0).toArray)
    {id ep : Nat} {op : Bool} (zs : List Int) (hg : h.get id = some (.row 1 op ep (zs.map encInt))) (hz : 0 < zs.length) (hb : zs.length < 4611686018427387904) :
    HCall P G f [.slice id ep 0 zs.length none] h (fun v h' => v = .slice id ep 0 (compactZ zs).length none ∧ h' = h.put id (.row 1 op ep ((compactZ zs ++ List.replicate (zs.length - (compactZ zs).length) 0).map encInt))) := by
  intro pl M w vs hG hr hv
  obtain ⟨a, rfl, hv1⟩ := args1 hv
  obtain ⟨p, c, t, cap', hp, hbl, rfl, hm, _, hlt⟩ := slice_whole hr hv1 hg hz
  have hcell : ∀ j z, zs[j]? = some z → j < c.size ∧ c.getD j undef = .int .i64 z := by
    intro j z hj
    have hx : (zs.map encInt)[j]? = some (encInt z) := by rw [List.getElem?_map, hj]; rfl
    obtain ⟨q1, y, q2, q3⟩ := inMem_get hm hx (j := 0) (by omega)
    rw [Nat.mul_one, Nat.add_zero] at q1 q3
    simp [encInt, AV.cells] at q2
    subst q2
    refine ⟨q1, ?_⟩
    cases hq : c.getD j undef <;> rw [hq] at q3 <;> cases q3
    rfl
  have hle := compactZ_le zs
  have hcap : zs.length ≤ cap' := by cases hv1 with | slice hp he hl hk ha => exact hl
  generalize hnew : compactZ zs ++ List.replicate (zs.length - (compactZ zs).length) 0 = ns
  have hnl : ns.length = zs.length := by rw [← hnew]; simp; omega
  refine .inl ⟨hE _ _, Calls.mono (hC p.blk 0 cap' zs w (fun j hj => ?_) (by omega) hcap) fun e w' ⟨he, n, hw⟩ => ?_⟩
  · have hj' : j < zs.length := by simpa using hj
    obtain ⟨q1, q2⟩ := hcell j zs[j] (List.getElem?_eq_getElem hj')
    rw [Nat.zero_add]
    refine ⟨?_, ?_⟩
    · simp only [World.cell?, hbl]
      simp only [Option.isSome_none, Bool.false_eq_true, if_false]
      rw [Array.getElem?_eq_getElem q1]
      have : c.getD j undef = c[j] := by simp [Array.getD, q1]
      rw [← this, q2]
      simp [hj']
    · simp [World.frozen?, hbl]
  · have hw2 : w' = grow (putRow (Value.int .i64) (Sort.ahead w n) p.blk 0 ns.toArray) #[] := by
      rw [hw, grow_empty]; congr 2
    have hrel : VRel pl M (.slice id ep 0 (compactZ zs).length none) (.slice (some ⟨p.blk, 0, none⟩) (compactZ zs).length cap') := by
      cases hv1 with
      | slice hp he hl hk ha =>
        refine .slice hp he (by omega) hk fun e => ?_
        obtain ⟨k1, k2, k3, k4, k5⟩ := ha e
        exact ⟨k1, k2, by omega, k4, k5⟩
    refine ⟨_, _, _, he, ⟨rfl, rfl⟩, pl, M, hrel, ?_⟩
    have hw1 : w'.heap[p.blk]? = some (.cells (putCells (Value.int .i64) 0 ns.toArray c) t (0, 0)) := by rw [hw2]; exact grow_put_at hbl
    obtain ⟨r1, r2⟩ := Rep.rowNew (w' := w') (xs' := ns.map encInt) hr hp hg hbl hw1 (by simp [putCells]) (by simp [hnl]) (fun x hx => by
        obtain ⟨z, _, rfl⟩ := List.mem_map.1 hx
        exact ⟨rfl, fun y hy => by simp [encInt, AV.cells] at hy; subst hy; rfl⟩) (fun i x j y q1 q2 => by
        rw [List.getElem?_map] at q1
        obtain ⟨z, e1, rfl⟩ := Option.map_eq_some_iff.1 q1
        have hi := (List.getElem?_eq_some_iff.1 e1).1
        cases j with
        | succ j => simp [encInt, AV.cells] at q2
        | zero =>
          simp [encInt, AV.cells] at q2
          subst q2
          rw [Nat.mul_one, Nat.add_zero, putCells_getD (by simpa using hi) (hcell i zs[i] (List.getElem?_eq_getElem (by omega))).1]
          have : ns.toArray[i]! = z := by simp [e1]
          rw [this]; exact .int _ _) (by rw [hw2]; exact grow_put_same) (by rw [hw2]; exact grow_put_size) (fun b hb hne => by rw [hw2]; exact grow_put_other hb hne)
    exact ⟨r1, r2, Nat.le_refl _⟩

/-- .. of none. -/
theorem sortNil_call {f : FuncId} (hE : ∀ vs w, (callFunc f vs).run P w = .ok (.enter f vs) w)
    (hC : ∀ (p : Option Addr) (cap : Nat) (w : World), Calls P f #[.slice p 0 cap] w fun e w' => e = .returned (.tuple #[]) ∧ w' = w) : HPure P G f [.nils] (.tuple []) := by
  intro h pl M w vs hG hr hv
  obtain ⟨a, rfl, hv1⟩ := args1 hv
  cases hv1
  exact .inl ⟨hE _ _, Calls.mono (hC none 0 w) fun e w' ⟨he, hw⟩ => ⟨.tuple #[], .tuple [], h, he, ⟨rfl, rfl⟩, pl, M, tuple_rel, by rw [hw]; exact ⟨hr, StepF.refl .., Nat.le_refl _⟩⟩⟩
theorem sortFuncNil_call {f : FuncId} {g : Fn} (hE : ∀ vs w, (callFunc f vs).run P w = .ok (.enter f vs) w)
    (hC : ∀ (p : Option Addr) (cap : Nat) (fv : Value) (w : World), Calls P f #[.slice p 0 cap, fv] w fun e w' => e = .returned (.tuple #[]) ∧ w' = w) : HPure P G f [.nils, .func g [] []] (.tuple []) := by
  intro h pl M w vs hG hr hv
  obtain ⟨a, b, rfl, hv1, hv2⟩ := args2 hv
  cases hv1
  exact .inl ⟨hE _ _, Calls.mono (hC none 0 b w) fun e w' ⟨he, hw⟩ => ⟨.tuple #[], .tuple [], h, he, ⟨rfl, rfl⟩, pl, M, tuple_rel, by rw [hw]; exact ⟨hr, StepF.refl .., Nat.le_refl _⟩⟩⟩

def ltBy {α : Type} (cmp : α → α → Int) (a b : α) : Bool := decide (cmp a b < 0)

/-- slices.SortFunc of structs, by what the kit says of it. -/
theorem sortFunc_call {f g : FuncId} {sz : Nat} (hGT : GTop G) (hE : ∀ vs w, (callFunc f vs).run P w = .ok (.enter f vs) w) (hg2 : ∀ args w, (callFunc g args).run P w = .ok (.enter g args) w)
    (hC : ∀ (m : Nat) (enc : Fin (m + 1) → List Value) (cf : Fin (m + 1) → Fin (m + 1) → Int) (blk off cap : Nat) (d : Array (Fin (m + 1))) (w : World), (∀ x, (enc x).length = sz) → (∀ x, ∀ v ∈ enc x, v.oneCell' = true) → SWO (ltOf cf) →
      CmpLays P g #[] enc sz cf blk off d.size w → HoldsK enc sz w blk off d → blk < w.heap.size → d.size < 4611686018427387904 →
      Calls P f #[.slice (some ⟨blk, off, none⟩) d.size cap, .func (.func g) #[] #[]] w fun e w' => e = .returned (.tuple #[]) ∧ ∃ d' n os, PermIn 0 d.size d d' ∧ SortedIn (ltOf cf) 0 d.size d' ∧ w' = sortWorldK enc sz w blk off n d' os)
    {α : Type} [Inhabited α] (enc : α → AV) (cmp : α → α → Int) (hO : SWO (ltBy cmp)) (hag : ∀ a, ∃ cs, enc a = .agg cs) (htop : ∀ a, (enc a).top = 0)
    (l : List α) (hcmp : ∀ a, a ∈ l → ∀ b, b ∈ l → HPure P G g [enc a, enc b] (.int .i64 (cmp a b)))
    {oid ep : Nat} {op : Bool} {cap : Option Nat} (hg : h.get oid = some (.row sz op ep (l.map enc))) (hz : 0 < l.length) (hb : l.length < 4611686018427387904) :
    HCall P G f [.slice oid ep 0 l.length cap, .func (.func g) [] []] h (fun v h' => ∃ l' : List α, (l'.Perm l ∧ l'.Pairwise fun a b => ltBy cmp b a = false) ∧ v = .tuple [] ∧ h' = h.put oid (.row sz op ep (l'.map enc))) := by
  intro pl M w vs hG hr hv
  obtain ⟨a, fv, rfl, hv1, hv2⟩ := args2 hv
  have e2 := rel_func hv2
  subst e2
  obtain ⟨p, c, t, cap', hp, hbl, rfl, hm, hsz0, hlt⟩ := slice_whole hr hv1 hg hz
  obtain ⟨m, hm1⟩ : ∃ m, l.length = m + 1 := ⟨l.length - 1, by omega⟩
  have hfit := hm.fit
  rw [List.length_map, Nat.zero_add, hm1] at hfit
  have helem : ∀ i : Fin (m + 1), (l.map enc)[i.1]? = some (enc l[i.1]!) := fun i => by
    have := i.2
    rw [List.getElem?_map, List.getElem?_eq_getElem (by omega), getElem!_pos l i.1 (by omega)]; rfl
  have hmul : ∀ i : Fin (m + 1), i.1 * sz + sz ≤ (m + 1) * sz := fun i => by
    have := Nat.mul_le_mul_right sz (Nat.succ_le_of_lt i.2); rwa [Nat.succ_mul] at this
  generalize hcof : (fun i : Fin (m + 1) => (List.range sz).map fun j => c.getD (i.1 * sz + j) undef) = cellsOf
  have cl : ∀ i, (cellsOf i).length = sz := fun i => by rw [← hcof]; simp
  have cg : ∀ i j, j < sz → (cellsOf i)[j]? = some (c.getD (i.1 * sz + j) undef) := fun i j hj => by rw [← hcof]; simp [hj]
  generalize hd : (Array.ofFn (n := m + 1) id) = d
  have hds : d.size = m + 1 := by rw [← hd]; simp
  have hdg : ∀ j (hj : j < m + 1), d[j]! = ⟨j, hj⟩ := fun j hj => by rw [getElem!_pos d j (by omega)]; subst hd; simp
  have hflat : ∀ (dk : Array (Fin (m + 1))), dk.size = m + 1 → ∀ i j, i < m + 1 → j < sz → (flatK cellsOf sz dk)[i * sz + j]! = c.getD ((dk[i]!).1 * sz + j) undef := fun dk hdk i j hi hj => by
    have h1 : i * sz + j < dk.size * sz := by
      have := Nat.mul_le_mul_right sz (Nat.succ_le_of_lt hi); rw [Nat.succ_mul] at this; rw [hdk]; omega
    rw [get_flatK cellsOf sz dk _ h1]
    have h2 : (i * sz + j) / sz = i := by rw [Nat.mul_comm, Nat.mul_add_div hsz0, Nat.div_eq_of_lt hj, Nat.add_zero]
    have h3 : (i * sz + j) % sz = j := by rw [Nat.mul_comm, Nat.mul_add_mod, Nat.mod_eq_of_lt hj]
    rw [h2, h3, getElem!_pos _ j (by rw [cl]; exact hj)]
    have := cg (dk[i]!) j hj
    rw [List.getElem?_eq_getElem (by rw [cl]; exact hj)] at this
    simpa using this
  have hH : HoldsK cellsOf sz w p.blk 0 d := by
    intro k hk
    rw [size_flatK, hds] at hk
    have hi : k / sz < m + 1 := Nat.div_lt_of_lt_mul (by rw [Nat.mul_comm]; exact hk)
    have hj : k % sz < sz := Nat.mod_lt _ hsz0
    have hk2 : k / sz * sz + k % sz = k := by rw [Nat.mul_comm]; exact Nat.div_add_mod k sz
    have := hflat d hds (k / sz) (k % sz) hi hj
    rw [hdg _ hi, hk2] at this
    rw [this, Nat.zero_add]
    have hkc : k < c.size := by omega
    refine ⟨?_, by simp [World.frozen?, hbl]⟩
    simp only [World.cell?, hbl]
    simp only [Option.isSome_none, Bool.false_eq_true, if_false]
    rw [Array.getElem?_eq_getElem hkc]
    simp [Array.getD, hkc]
  have hrelE : ∀ (i : Fin (m + 1)) cs, enc l[i.1]! = .agg cs → cs.length = sz ∧ (∀ y, y ∈ cs → scalB y = true) ∧ ∀ (j : Nat) (y : AV), cs[j]? = some y → VRel pl M y (c.getD (i.1 * sz + j) undef) := by
    intro i cs hcs
    have h1 := hm.elem _ (List.mem_of_getElem? (helem i))
    rw [hcs] at h1
    refine ⟨h1.1, h1.2, fun j y hj => ?_⟩
    have := hm.cell i.1 _ j y (helem i) (by rw [hcs]; exact hj)
    rwa [Nat.zero_add] at this
  have hone : ∀ i, ∀ v ∈ cellsOf i, v.oneCell' = true := by
    intro i v hvm
    obtain ⟨j, hj, e⟩ := List.getElem_of_mem hvm
    rw [cl] at hj
    have h1 := cg i j hj
    rw [List.getElem?_eq_getElem (by rw [cl]; exact hj), e] at h1
    obtain ⟨cs, hcs⟩ := hag l[i.1]!
    obtain ⟨k1, k2, k3⟩ := hrelE i cs hcs
    have := k3 j cs[j] (List.getElem?_eq_getElem (by omega))
    cases h1
    exact this.one (k2 _ (List.getElem_mem _))
  have hmemL : ∀ i : Fin (m + 1), l[i.1]! ∈ l := fun i => by
    have := i.2
    rw [getElem!_pos l i.1 (by omega)]; exact List.getElem_mem _
  have hlays : CmpLays P g #[] cellsOf sz (fun i j => cmp l[i.1]! l[j.1]!) p.blk 0 d.size w := by
    intro n os dk hdk x y
    generalize hW : sortWorldK cellsOf sz w p.blk 0 n dk os = W
    have hWo : ∀ b, b < w.heap.size → b ≠ p.blk → W.heap[b]? = w.heap[b]? := fun b h1 h2 => by rw [← hW]; exact grow_put_other h1 h2
    have hrW : Rep (fun _ => none) M AHeap.none W := rep_none (pl := fun _ => none) (n := 0) (g := AHeap.none.get) ⟨fun _ _ h => by simp at h, fun _ _ _ h => by simp at h, fun _ _ h => by simp at h, fun _ _ _ _ h => by simp at h, fun b c' hM => by
      obtain ⟨t', fr, q⟩ := hr.imm b c' hM
      refine ⟨t', fr, ?_⟩
      rw [hWo b (hr.memLt hM) (fun e => by have := hr.sep oid p hp; rw [← e, hM] at this; cases this)]
      exact q, fun _ _ h => by simp at h⟩
    have hrel : ∀ i : Fin (m + 1), VRel (fun _ => none) M (enc l[i.1]!) (.agg (cellsOf i).toArray) := by
      intro i
      obtain ⟨cs, hcs⟩ := hag l[i.1]!
      obtain ⟨k1, k2, k3⟩ := hrelE i cs hcs
      have ht := htop l[i.1]!
      rw [hcs] at ht ⊢
      refine .agg (by simp [cl, k1]) k2 fun j y hj => ?_
      have hj' : j < sz := by rw [← k1]; exact (List.getElem?_eq_some_iff.1 hj).1
      have e : (cellsOf i).toArray.getD j undef = c.getD (i.1 * sz + j) undef := by
        have := cg i j hj'
        rw [Array.getD_eq_getD_getElem?, List.getElem?_toArray, this]; rfl
      rw [e]
      exact (k3 j y hj).none (tops_0.1 ht y (List.mem_of_getElem? hj))
    have hc := hcmp _ (hmemL x) _ (hmemL y) AHeap.none (fun _ => none) M W #[.agg (cellsOf x).toArray, .agg (cellsOf y).toArray] (hG.none hGT) hrW ⟨rfl, fun j z hj => by
      match j, hj with
      | 0, hj => cases hj; exact hrel x
      | 1, hj => cases hj; exact hrel y⟩
    rcases hc with ⟨h1, h2⟩ | ⟨cv, w', v, h', h1, h2, h3⟩
    · refine Calls.mono h2 fun e w' ⟨cv, v, h', k1, k2, pl', M', k3, k4, k5, k6⟩ => ?_
      obtain ⟨k2, _⟩ := k2
      subst k2
      cases k3
      refine ⟨k1, ?_⟩
      obtain ⟨q, hq⟩ := regrown_of_below (w := W) (w' := w') ⟨k5.os, k5.tape, k5.out, k5.size, fun b hb => k5.kept b hb fun id p h => by simp at h⟩
      refine ⟨w'.drawn - W.drawn, q.os, ?_⟩
      have hd1 : w'.drawn = q.d := by rw [hq]; rfl
      have hd2 := k5.drawn
      have : redrawn W q.d = W.drewN (w'.drawn - W.drawn) := by
        show ({ W with drawn := q.d } : World) = { W with drawn := W.drawn + (w'.drawn - W.drawn) }
        congr 1; omega
      rw [← this]; exact hq
    · rw [hg2] at h1; cases h1
  refine .inl ⟨hE _ _, ?_⟩
  have hcall := hC m cellsOf (fun i j => cmp l[i.1]! l[j.1]!) p.blk 0 cap' d w cl hone ⟨fun x => hO.irrefl _, fun x y z => hO.trans _ _ _, fun x y z => hO.ntrans _ _ _⟩ hlays hH hlt (by omega)
  rw [show d.size = l.length by omega] at hcall
  refine Calls.mono hcall fun e w' ⟨he, d', n, os, hP, hS, hw⟩ => ?_
  obtain ⟨hp1, _, hp3⟩ := hP
  have hd's : d'.size = m + 1 := by omega
  have hperm : d'.toList.Perm d.toList := by
    have e1 : d'.extract 0 l.length = d' := by rw [show l.length = d'.size by omega]; exact Array.extract_size
    have e2 : d.extract 0 l.length = d := by rw [show l.length = d.size by omega]; exact Array.extract_size
    rwa [e1, e2] at hp3
  have hdl : d.toList.map (fun i => l[i.1]!) = l := by
    apply List.ext_getElem?
    intro i
    by_cases hi : i < l.length
    · rw [List.getElem?_map, Array.getElem?_toList, Array.getElem?_eq_getElem (by omega), List.getElem?_eq_getElem hi]
      have := hdg i (by omega)
      rw [getElem!_pos d i (by omega)] at this
      rw [this]
      show some (l[i]!) = some l[i]
      rw [getElem!_pos l i hi]
    · rw [List.getElem?_eq_none (by simp; omega), List.getElem?_eq_none (by omega)]
  have hl' : (d'.toList.map (fun i => l[i.1]!)).length = l.length := by simp; omega
  refine ⟨.tuple #[], .tuple [], _, he, ⟨d'.toList.map (fun i => l[i.1]!), ⟨?_, ?_⟩, rfl, rfl⟩, pl, M, tuple_rel, ?_⟩
  · have := hperm.map (fun i => l[i.1]!); rwa [hdl] at this
  · rw [List.pairwise_iff_getElem]
    intro i j hi hj hij
    have hi' : i < d'.size := by simpa using hi
    have hj' : j < d'.size := by simpa using hj
    have := hS i j (Nat.zero_le _) hij (by omega)
    rw [getElem!_pos d' i hi', getElem!_pos d' j hj'] at this
    simpa [ltBy, ltOf] using this
  · have hw1 : w'.heap[p.blk]? = some (.cells (putCells id 0 (flatK cellsOf sz d') c) t (0, 0)) := by rw [hw]; exact grow_put_at hbl
    obtain ⟨r1, r2⟩ := Rep.rowNew (w' := w') (xs' := (d'.toList.map (fun i => l[i.1]!)).map enc) hr hp hg hbl hw1 (by simp [putCells]) (by simp; omega) (fun x hx => by
        obtain ⟨z, h1, rfl⟩ := List.mem_map.1 hx
        obtain ⟨i, _, rfl⟩ := List.mem_map.1 h1
        exact hm.elem _ (List.mem_of_getElem? (helem i))) (fun i x j y q1 q2 => by
        rw [List.getElem?_map, List.getElem?_map, Array.getElem?_toList] at q1
        obtain ⟨z, e1, rfl⟩ := Option.map_eq_some_iff.1 q1
        obtain ⟨k, e2, rfl⟩ := Option.map_eq_some_iff.1 e1
        have hi : i < d'.size := (Array.getElem?_eq_some_iff.1 e2).1
        obtain ⟨cs, hcs⟩ := hag l[k.1]!
        obtain ⟨k1, k2, k3⟩ := hrelE k cs hcs
        rw [hcs] at q2
        have hj : j < sz := by rw [← k1]; exact (List.getElem?_eq_some_iff.1 q2).1
        have hb1 : i * sz + j < (m + 1) * sz := by
          have := Nat.mul_le_mul_right sz (Nat.succ_le_of_lt (show i < m + 1 by omega)); rw [Nat.succ_mul] at this; omega
        rw [putCells_getD (by rw [size_flatK, hd's]; exact hb1) (by omega)]
        have := hflat d' hd's i j (by omega) hj
        have e3 : d'[i]! = k := by rw [getElem!_pos d' i hi]; rw [Array.getElem?_eq_getElem hi] at e2; simpa using e2
        rw [e3] at this
        show VRel pl M y (flatK cellsOf sz d')[i * sz + j]!
        rw [this]
        exact k3 j y q2) (by rw [hw]; exact grow_put_same) (by rw [hw]; exact grow_put_size) (fun b hb hne => by rw [hw]; exact grow_put_other hb hne)
    exact ⟨r1, r2, Nat.le_refl _⟩

end
end Go.Ev

/- Sets of days: spans in order, their merging, the days that they hold. Plain lists alone. -/
namespace Go.Ev
open Go

theorem cmpI_lt (a b : Int) : ltI (cmpI a b) 0 = ltI a b := by
  unfold cmpI
  cases h : ltI a b with
  | true => rfl
  | false => cases h2 : ltI b a <;> rfl
/-- How many spans begin before a day. -/
noncomputable def cntS (l : List PSpan) (d : Int) : Nat := (l.takeWhile fun s => ltI s.from_ d).length
theorem cntS_le (l : List PSpan) (d : Int) : cntS l d ≤ l.length := by
  induction l with
  | nil => simp [cntS]
  | cons a r ih => unfold cntS at *; rw [List.takeWhile_cons]; split <;> simp at * <;> omega
def SortS (l : List PSpan) : Prop := l.Pairwise fun a b => a.from_ ≤ b.from_
theorem cntS_iff {d : Int} : ∀ {l : List PSpan}, SortS l → ∀ k, k < l.length → (ltI (gD l k).from_ d = true ↔ k < cntS l d)
  | [], _, k, h => by simp at h
  | a :: r, hs, k, h => by
    obtain ⟨h1, h2⟩ := List.pairwise_cons.1 hs
    unfold cntS
    rw [List.takeWhile_cons]
    cases q : ltI a.from_ d with
    | true =>
      simp only [if_true, List.length_cons]
      cases k with
      | zero => simp [gD, q]
      | succ k =>
        have := cntS_iff (d := d) h2 k (by simpa using h)
        rw [show gD (a :: r) (k + 1) = gD r k from rfl, this]
        unfold cntS; omega
    | false =>
      simp only [Bool.false_eq_true, if_false, List.length_nil, Nat.not_lt_zero, iff_false, Bool.not_eq_true]
      have hd := ltI_false q
      cases k with
      | zero => exact q
      | succ k =>
        have h3 : gD r k ∈ r := gD_mem (by simpa using h)
        have := h1 _ h3
        exact ltI_f (a := (gD r k).from_) (b := d) (by omega)
noncomputable def isAt (l : List PSpan) (d : Int) : Bool := ltI (Int.ofNat (cntS l d)) (Int.ofNat l.length) && eqI (cmpI (gD l (cntS l d)).from_ d) 0
theorem NrmS_sort {l : List PSpan} (h : l.Pairwise fun a b => a.to < b.from_) (h2 : ∀ s, s ∈ l → s.from_ < s.to) : SortS l := by
  induction l with
  | nil => exact .nil
  | cons a r ih =>
    obtain ⟨h3, h4⟩ := List.pairwise_cons.1 h
    refine List.pairwise_cons.2 ⟨fun b hb => ?_, ih h4 fun s hs => h2 s (List.mem_cons_of_mem _ hs)⟩
    have := h3 b hb
    have := h2 a (List.mem_cons_self ..)
    omega
/-- A normalized set of days. -/
structure NrmS (l : List PSpan) : Prop where
  gap : l.Pairwise fun a b => a.to < b.from_
  ok : ∀ s, s ∈ l → 0 ≤ s.from_ ∧ s.from_ < s.to ∧ s.to ≤ 1048577
theorem NrmS.sort {l : List PSpan} (h : NrmS l) : SortS l := NrmS_sort h.gap fun s hs => (h.ok s hs).2.1
theorem NrmS_len : ∀ {l : List PSpan} {b : Int}, l.Pairwise (fun a b => a.to < b.from_) → (∀ s, s ∈ l → b ≤ s.from_ ∧ s.from_ < s.to ∧ s.to ≤ 1048577) → b ≤ 1048577 → Int.ofNat l.length ≤ 1048577 - b
  | [], b, _, _, hb => by simp; omega
  | a :: r, b, h, h2, hb => by
    obtain ⟨h3, h4⟩ := List.pairwise_cons.1 h
    have h5 := h2 a (List.mem_cons_self ..)
    have := NrmS_len (l := r) (b := b + 1) h4 (fun s hs => by
      have := h3 s hs
      have := h2 s (List.mem_cons_of_mem _ hs)
      omega) (by omega)
    simp only [List.length_cons, Int.ofNat_eq_natCast] at *
    omega
theorem NrmS.len {l : List PSpan} (h : NrmS l) : l.length ≤ 1048577 := by
  have := NrmS_len (b := 0) h.gap h.ok (by omega)
  simp only [Int.ofNat_eq_natCast] at this; omega
noncomputable def memS (l : List PSpan) (d : Int) : Bool := isAt l d || (ltI 0 (Int.ofNat (cntS l d)) && ltI d (gD l (cntS l d - 1)).to)
/-- A day that none of the spans can contain. -/
theorem memS_out {l : List PSpan} (h : NrmS l) {d : Int} (hd : d < 0 ∨ 1048576 < d) : memS l d = false := by
  have hs := h.sort
  have hi := cntS_iff (d := d) hs
  have hc := cntS_le l d
  unfold memS isAt
  rcases hd with hd | hd
  · have h0 : cntS l d = 0 := by
      rcases Nat.eq_zero_or_pos (cntS l d) with e | e
      · exact e
      · have h1 := (hi 0 (by omega)).2 e
        have := ltI_true h1
        have := h.ok (gD l 0) (gD_mem (by omega))
        omega
    rw [h0]
    have e2 : ltI 0 (Int.ofNat 0) = false := by rfl
    rw [e2, Bool.false_and, Bool.or_false]
    cases hl : ltI (Int.ofNat 0) (Int.ofNat l.length) with
    | false => rfl
    | true =>
      have hlt := ltI_true hl
      simp only [Int.ofNat_eq_natCast] at hlt
      have := h.ok (gD l 0) (gD_mem (by omega))
      have e3 : eqI (cmpI (gD l 0).from_ d) 0 = false := by
        unfold cmpI
        rw [ltI_f (by omega), ltI_t (by omega)]; rfl
      rw [e3]; rfl
  · have h0 : cntS l d = l.length := by
      rcases Nat.lt_or_ge (cntS l d) l.length with e | e
      · exfalso
        have := h.ok (gD l (cntS l d)) (gD_mem e)
        have h1 := (hi (cntS l d) e).1 (ltI_t (by omega))
        omega
      · omega
    rw [h0, ltI_f (by omega), Bool.false_and, Bool.false_or]
    cases hl : ltI 0 (Int.ofNat l.length) with
    | false => rfl
    | true =>
      have hlt := ltI_true hl
      simp only [Int.ofNat_eq_natCast] at hlt
      have := h.ok (gD l (l.length - 1)) (gD_mem (by omega))
      rw [ltI_f (by omega)]; rfl
theorem mxI_eq (a b : Int) : mxI a b = max a b := by
  unfold mxI
  cases h : ltI a b with
  | true => have := ltI_true h; simp only []; omega
  | false => have := ltI_false h; simp only []; omega
theorem mnI_eq (a b : Int) : mnI a b = min a b := by
  unfold mnI
  cases h : ltI b a with
  | true => have := ltI_true h; simp only []; omega
  | false => have := ltI_false h; simp only []; omega
noncomputable abbrev clipS (s : PSpan) : PSpan := ⟨mxI s.from_ 0, mnI s.to 1048577⟩
noncomputable abbrev okS (s : PSpan) : Bool := ltI (mxI s.from_ 0) (mnI s.to 1048577)
noncomputable def clipL : List PSpan → List PSpan
  | [] => []
  | s :: r => match okS s with | true => clipS s :: clipL r | false => clipL r
theorem clipL_y {s : PSpan} {r : List PSpan} (h : okS s = true) : clipL (s :: r) = clipS s :: clipL r := by simp only [clipL, h]
theorem clipL_n {s : PSpan} {r : List PSpan} (h : okS s = false) : clipL (s :: r) = clipL r := by simp only [clipL, h]
theorem clipL_len : ∀ (l : List PSpan), (clipL l).length ≤ l.length
  | [] => by simp [clipL]
  | s :: r => by
    have := clipL_len r
    cases h : okS s with
    | true => rw [clipL_y h]; simp; omega
    | false => rw [clipL_n h]; simp; omega
theorem clipL_ok : ∀ {l : List PSpan} {s : PSpan}, s ∈ clipL l → 0 ≤ s.from_ ∧ s.from_ < s.to ∧ s.to ≤ 1048577
  | a :: r, s, hs => by
    cases h : okS a with
    | true =>
      rw [clipL_y h] at hs
      rcases List.mem_cons.1 hs with e | e
      · subst e
        have h2 := ltI_true h
        simp only [mxI_eq, mnI_eq] at *
        omega
      · exact clipL_ok e
    | false => rw [clipL_n h] at hs; exact clipL_ok hs
theorem clipL_no : ∀ {l : List PSpan} {s : PSpan}, clipL l = [] → s ∈ l → okS s = false
  | a :: r, s, h0, hs => by
    cases h : okS a with
    | true => rw [clipL_y h] at h0; cases h0
    | false =>
      rw [clipL_n h] at h0
      rcases List.mem_cons.1 hs with e | e
      · rw [e]; exact h
      · exact clipL_no h0 e

/-- Is a day among those of the spans? -/
def memB (l : List PSpan) (d : Int) : Bool := l.any fun s => decide (s.from_ ≤ d ∧ d < s.to)
def inR (d : Int) : Bool := decide (0 ≤ d ∧ d < 1048577)
theorem memB_nil (d : Int) : memB [] d = false := rfl
theorem memB_cons (a : PSpan) (l : List PSpan) (d : Int) : memB (a :: l) d = (decide (a.from_ ≤ d ∧ d < a.to) || memB l d) := rfl
theorem memB_app (l r : List PSpan) (d : Int) : memB (l ++ r) d = (memB l d || memB r d) := by simp [memB]
theorem memB_iff {l : List PSpan} {d : Int} : memB l d = true ↔ ∃ s, s ∈ l ∧ s.from_ ≤ d ∧ d < s.to := by simp [memB]
theorem memB_perm {l r : List PSpan} (h : l.Perm r) (d : Int) : memB l d = memB r d := by
  rw [Bool.eq_iff_iff, memB_iff, memB_iff]
  exact ⟨fun ⟨s, h1, h2⟩ => ⟨s, h.mem_iff.1 h1, h2⟩, fun ⟨s, h1, h2⟩ => ⟨s, h.mem_iff.2 h1, h2⟩⟩
theorem clipL_mem : ∀ (l : List PSpan) (d : Int), memB (clipL l) d = (inR d && memB l d)
  | [], d => by simp [clipL, memB]
  | a :: r, d => by
    have ih := clipL_mem r d
    have e : ∀ b : Bool, (b = decide (0 ≤ d ∧ d < 1048577 ∧ a.from_ ≤ d ∧ d < a.to)) → (b || (inR d && memB r d)) = (inR d && memB (a :: r) d) := fun b hb => by
      rw [memB_cons, hb]; unfold inR
      by_cases h1 : 0 ≤ d ∧ d < 1048577
      · by_cases h2 : a.from_ ≤ d ∧ d < a.to
        · simp [h1, h2]
        · simp [h1, h2]
      · have : ¬ (0 ≤ d ∧ d < 1048577 ∧ a.from_ ≤ d ∧ d < a.to) := fun h => h1 ⟨h.1, h.2.1⟩
        simp [h1, this]
    cases h : okS a with
    | true =>
      rw [clipL_y h, memB_cons, ih]
      refine e _ ?_
      simp only [mxI_eq, mnI_eq]
      congr 1
      refine propext ⟨fun h => ?_, fun h => ?_⟩ <;> omega
    | false =>
      rw [clipL_n h, ih]
      have h2 := ltI_false h
      simp only [mxI_eq, mnI_eq] at h2
      rw [← e false ?_, Bool.false_or]
      symm
      rw [decide_eq_false_iff_not]
      omega

theorem NrmS.tail {a : PSpan} {r : List PSpan} (h : NrmS (a :: r)) : NrmS r := ⟨(List.pairwise_cons.1 h.gap).2, fun s hs => h.ok s (List.mem_cons_of_mem _ hs)⟩
theorem NrmS.low {a x : PSpan} {r : List PSpan} (h : NrmS (a :: r)) (hx : x ∈ r) : a.to < x.from_ := (List.pairwise_cons.1 h.gap).1 x hx
theorem NrmS.head {a : PSpan} {r : List PSpan} (h : NrmS (a :: r)) : 0 ≤ a.from_ ∧ a.from_ < a.to ∧ a.to ≤ 1048577 := h.ok a (List.mem_cons_self ..)
theorem nrm_nil : NrmS [] := ⟨.nil, fun s h => by cases h⟩
theorem nrm_first {a : PSpan} {r : List PSpan} (h : NrmS (a :: r)) : memB (a :: r) a.from_ = true := by
  have := h.head
  rw [memB_cons]; simp; omega
theorem nrm_from {a : PSpan} {r : List PSpan} (h : NrmS (a :: r)) {d : Int} (hd : memB (a :: r) d = true) : a.from_ ≤ d := by
  obtain ⟨s, h1, h2, h3⟩ := memB_iff.1 hd
  rcases List.mem_cons.1 h1 with e | e
  · rw [← e]; exact h2
  · have := h.low e
    have := h.head
    omega
theorem nrm_to {a : PSpan} {r : List PSpan} (h : NrmS (a :: r)) : memB (a :: r) a.to = false := by
  cases q : memB (a :: r) a.to with
  | false => rfl
  | true =>
    obtain ⟨s, h1, h2, h3⟩ := memB_iff.1 q
    rcases List.mem_cons.1 h1 with e | e
    · rw [e] at h3; omega
    · have := h.low e; omega
theorem nrm_rest {a : PSpan} {r : List PSpan} (h : NrmS (a :: r)) (d : Int) : memB r d = (decide (a.to ≤ d) && memB (a :: r) d) := by
  rw [memB_cons]
  by_cases h1 : a.to ≤ d
  · have : ¬ (a.from_ ≤ d ∧ d < a.to) := by omega
    simp [h1, this]
  · have : memB r d = false := by
      cases q : memB r d with
      | false => rfl
      | true =>
        obtain ⟨s, h2, h3, h4⟩ := memB_iff.1 q
        have := h.low h2; omega
    simp [h1, this]
/-- Of the days the spans are known. -/
theorem nrm_unique : ∀ {r s : List PSpan}, NrmS r → NrmS s → (∀ d, memB r d = memB s d) → r = s
  | [], [], _, _, _ => rfl
  | [], b :: s, _, hs, h => by have := h b.from_; rw [nrm_first hs, memB_nil] at this; cases this
  | a :: r, [], hr, _, h => by have := h a.from_; rw [nrm_first hr, memB_nil] at this; cases this
  | a :: r, b :: s, hr, hs, h => by
    have h1 : b.from_ ≤ a.from_ := nrm_from hs (by rw [← h]; exact nrm_first hr)
    have h2 : a.from_ ≤ b.from_ := nrm_from hr (by rw [h]; exact nrm_first hs)
    have ha := hr.head
    have hb := hs.head
    have h3 : ¬ a.to < b.to := fun q => by
      have e : memB (b :: s) a.to = true := by rw [memB_cons]; simp; left; omega
      rw [← h, nrm_to hr] at e; cases e
    have h4 : ¬ b.to < a.to := fun q => by
      have e : memB (a :: r) b.to = true := by rw [memB_cons]; simp; left; omega
      rw [h, nrm_to hs] at e; cases e
    have e : a = b := by
      obtain ⟨a1, a2⟩ := a
      obtain ⟨b1, b2⟩ := b
      simp only [PSpan.mk.injEq] at *
      omega
    subst e
    rw [nrm_unique hr.tail hs.tail fun d => by rw [nrm_rest hr, nrm_rest hs, h]]

/-- A day ahead of the others. -/
def addDay (f : Int → Bool) (d : Int) (l : List PSpan) : List PSpan := match f d with
  | false => l
  | true => match l with
    | [] => [⟨d, d + 1⟩]
    | s :: r => if s.from_ = d + 1 then ⟨d, s.to⟩ :: r else ⟨d, d + 1⟩ :: s :: r
def runsD (f : Int → Bool) : Nat → List PSpan
  | 0 => []
  | k + 1 => addDay f (1048577 - Int.ofNat (k + 1)) (runsD f k)
theorem addDay_ok {f : Int → Bool} {d : Int} {l : List PSpan} (h0 : 0 ≤ d) (h1 : d + 1 ≤ 1048577) (hl : NrmS l) (hf : ∀ s, s ∈ l → d + 1 ≤ s.from_) :
    NrmS (addDay f d l) ∧ (∀ s, s ∈ addDay f d l → d ≤ s.from_) ∧ ∀ e, memB (addDay f d l) e = ((decide (e = d) && f e) || memB l e) := by
  unfold addDay
  cases hfd : f d with
  | false =>
    refine ⟨hl, fun s hs => by have := hf s hs; omega, fun e => ?_⟩
    by_cases q : e = d
    · subst q; simp [hfd]
    · simp [q]
  | true =>
    match l, hl, hf with
    | [], _, _ =>
      refine ⟨⟨by simp, fun s hs => by simp at hs; subst hs; exact ⟨h0, by simp only []; omega, h1⟩⟩, fun s hs => by simp at hs; subst hs; exact Int.le_refl _, fun e => ?_⟩
      simp only [memB_cons, memB_nil, Bool.or_false]
      by_cases q : e = d
      · subst q; simp [hfd]; omega
      · simp [q]; omega
    | s :: r, hl, hf =>
      have hs := hl.head
      have hs2 := hf s (List.mem_cons_self ..)
      simp only []
      by_cases q : s.from_ = d + 1
      · rw [if_pos q]
        refine ⟨⟨List.pairwise_cons.2 ⟨fun x hx => hl.low hx, hl.tail.gap⟩, fun x hx => ?_⟩, fun x hx => ?_, fun e => ?_⟩
        · rcases List.mem_cons.1 hx with e | e
          · subst e; simp only []; omega
          · exact hl.tail.ok x e
        · rcases List.mem_cons.1 hx with e | e
          · subst e; exact Int.le_refl _
          · have := hl.low e; omega
        · simp only [memB_cons]
          by_cases q2 : e = d
          · subst q2; simp [hfd]; left; omega
          · have e1 : decide (d ≤ e ∧ e < s.to) = decide (s.from_ ≤ e ∧ e < s.to) := by
              congr 1; refine propext ⟨fun h => ?_, fun h => ?_⟩ <;> omega
            rw [e1]; simp [q2]
      · rw [if_neg q]
        refine ⟨⟨List.pairwise_cons.2 ⟨fun x hx => ?_, hl.gap⟩, fun x hx => ?_⟩, fun x hx => ?_, fun e => ?_⟩
        · have := hf x hx
          rcases List.mem_cons.1 hx with e | e
          · subst e; simp only []; omega
          · have := hl.low e; simp only []; omega
        · rcases List.mem_cons.1 hx with e | e
          · subst e; simp only []; omega
          · exact hl.ok x e
        · rcases List.mem_cons.1 hx with e | e
          · subst e; exact Int.le_refl _
          · have := hf x e; omega
        · rw [memB_cons]
          by_cases q2 : e = d
          · subst q2; simp [hfd]; left; omega
          · have e1 : decide (d ≤ e ∧ e < d + 1) = false := by rw [decide_eq_false_iff_not]; omega
            simp only [e1, q2, decide_false, Bool.false_and]
theorem runsD_ok (f : Int → Bool) : ∀ k, k ≤ 1048577 → NrmS (runsD f k) ∧ (∀ s, s ∈ runsD f k → 1048577 - Int.ofNat k ≤ s.from_) ∧ ∀ e, memB (runsD f k) e = (decide (1048577 - Int.ofNat k ≤ e ∧ e < 1048577) && f e)
  | 0, _ => by
    refine ⟨nrm_nil, fun s h => (by cases h), fun e => ?_⟩
    have : decide (1048577 - Int.ofNat 0 ≤ e ∧ e < 1048577) = false := by rw [decide_eq_false_iff_not]; simp only [Int.ofNat_eq_natCast]; omega
    rw [this]; rfl
  | k + 1, hk => by
    obtain ⟨h1, h2, h3⟩ := runsD_ok f k (by omega)
    simp only [Int.ofNat_eq_natCast] at *
    have := addDay_ok (f := f) (d := 1048577 - ((k + 1 : Nat) : Int)) (l := runsD f k) (by omega) (by omega) h1 (fun s hs => by have := h2 s hs; omega)
    have h5 : runsD f (k + 1) = addDay f (1048577 - ((k + 1 : Nat) : Int)) (runsD f k) := by rw [runsD]; simp only [Int.ofNat_eq_natCast]
    rw [h5]
    refine ⟨this.1, this.2.1, fun e => ?_⟩
    rw [this.2.2 e, h3]
    by_cases q : e = 1048577 - ((k + 1 : Nat) : Int)
    · have e1 : decide (1048577 - (k : Int) ≤ e ∧ e < 1048577) = false := by rw [decide_eq_false_iff_not]; omega
      have e2 : decide (1048577 - ((k + 1 : Nat) : Int) ≤ e ∧ e < 1048577) = true := by rw [decide_eq_true_eq]; omega
      rw [e1, e2]; simp [q]
    · have e1 : decide (1048577 - (k : Int) ≤ e ∧ e < 1048577) = decide (1048577 - ((k + 1 : Nat) : Int) ≤ e ∧ e < 1048577) := decide_eq_decide.2 ⟨fun h => by omega, fun h => by omega⟩
      rw [e1, decide_eq_false q, Bool.false_and, Bool.false_or]
theorem nf_ex (f : Int → Bool) : ∃ l : List PSpan, NrmS l ∧ ∀ d, memB l d = (inR d && f d) := by
  obtain ⟨h1, _, h3⟩ := runsD_ok f 1048577 (Nat.le_refl _)
  exact ⟨_, h1, fun d => by rw [h3]; unfold inR; simp only [Int.ofNat_eq_natCast]; congr 2⟩
/-- The spans of a set of days. -/
noncomputable def nf (f : Int → Bool) : List PSpan := Classical.choose (nf_ex f)
theorem nf_nrm (f : Int → Bool) : NrmS (nf f) := (Classical.choose_spec (nf_ex f)).1
theorem nf_mem (f : Int → Bool) (d : Int) : memB (nf f) d = (inR d && f d) := (Classical.choose_spec (nf_ex f)).2 d
theorem nf_eq {f : Int → Bool} {r : List PSpan} (h : NrmS r) (hm : ∀ d, memB r d = (inR d && f d)) : r = nf f := nrm_unique h (nf_nrm f) fun d => by rw [hm, nf_mem]
theorem nf_congr {f g : Int → Bool} (h : ∀ d, inR d = true → f d = g d) : nf f = nf g := nf_eq (nf_nrm f) fun d => by
  rw [nf_mem]
  cases q : inR d with
  | false => rfl
  | true => rw [h d q]
theorem nf_self {l : List PSpan} (h : NrmS l) : l = nf (memB l) := nf_eq h fun d => by
  cases q : memB l d with
  | false => rw [Bool.and_false]
  | true =>
    obtain ⟨s, h1, h2, h3⟩ := memB_iff.1 q
    have := h.ok s h1
    have : inR d = true := by unfold inR; rw [decide_eq_true_eq]; omega
    rw [this]; rfl

theorem take_gD {α : Type} [Inhabited α] {l : List α} {n : Nat} (h : n < l.length) : l.take (n + 1) = l.take n ++ [gD l n] := by
  rw [List.take_add_one, List.getElem?_eq_getElem h]
  simp [gD, List.getD, List.getElem?_eq_getElem h]
theorem drop_gD {α : Type} [Inhabited α] {l : List α} {n : Nat} (h : n < l.length) : l.drop n = gD l n :: l.drop (n + 1) := by
  rw [List.drop_eq_getElem_cons h]
  simp [gD, List.getD, List.getElem?_eq_getElem h]
theorem set_take {α : Type} {l : List α} {n m : Nat} {x : α} (h : n ≤ m) : (l.set m x).take n = l.take n := by
  apply List.ext_getElem?
  intro i
  rw [List.getElem?_take, List.getElem?_take, List.getElem?_set]
  by_cases q : i < n
  · rw [if_pos q, if_pos q, if_neg (by omega)]
  · rw [if_neg q, if_neg q]
theorem gD_set {α : Type} [Inhabited α] {l : List α} {i k : Nat} {x : α} (h : i < l.length) : gD (l.set i x) k = if k = i then x else gD l k := by
  unfold gD List.getD
  rw [List.getElem?_set]
  by_cases e : i = k
  · subst e; simp [h]
  · simp [e, Ne.symm e]
theorem SortS.at {l : List PSpan} (h : SortS l) {i k : Nat} (hik : i ≤ k) (hk : k < l.length) : (gD l i).from_ ≤ (gD l k).from_ := by
  rcases Nat.lt_or_ge i k with q | q
  · have := List.pairwise_iff_getElem.1 h i k (by omega) hk q
    simpa [gD, List.getD, List.getElem?_eq_getElem hk, List.getElem?_eq_getElem (show i < l.length by omega)] using this
  · have : i = k := by omega
    subst this; exact Int.le_refl _

/-- What a round of the merging leaves: the merged ones ahead, behind them what is still to be read. -/
structure MergeI (l cur : List PSpan) (n i : Nat) : Prop where
  len : cur.length = l.length
  le : n ≤ i
  il : i ≤ l.length
  pos : 0 < i → 0 < n
  rest : ∀ k, i ≤ k → k < l.length → gD cur k = gD l k
  gap : ∀ j k, j < k → k < n → (gD cur j).to < (gD cur k).from_
  ok : ∀ k, k < n → 0 ≤ (gD cur k).from_ ∧ (gD cur k).from_ < (gD cur k).to ∧ (gD cur k).to ≤ 1048577
  last : 0 < n → ∀ k, i ≤ k → k < l.length → (gD cur (n - 1)).from_ ≤ (gD l k).from_
  mem : ∀ d, (memB (cur.take n) d || memB (l.drop i) d) = memB l d
theorem MergeI.start (l : List PSpan) : MergeI l l 0 0 :=
  ⟨rfl, Nat.le_refl _, Nat.zero_le _, fun h => absurd h (Nat.lt_irrefl _), fun _ _ _ => rfl, fun _ _ _ h => absurd h (Nat.not_lt_zero _), fun _ h => absurd h (Nat.not_lt_zero _), fun h => absurd h (Nat.lt_irrefl _), fun d => by simp [memB]⟩
theorem MergeI.copy {l cur : List PSpan} {n i : Nat} (h : MergeI l cur n i) (hi : i < l.length) (hs : SortS l) (hok : ∀ k, k < l.length → 0 ≤ (gD l k).from_ ∧ (gD l k).from_ < (gD l k).to ∧ (gD l k).to ≤ 1048577)
    (hn : n = 0 ∨ (gD cur (n - 1)).to < (gD cur i).from_) : MergeI l (cur.set n (gD cur i)) (n + 1) (i + 1) := by
  rw [h.rest i (Nat.le_refl _) hi] at hn ⊢
  have hl := h.le
  have hcl := h.len
  have hg : ∀ k, gD (cur.set n (gD l i)) k = if k = n then gD l i else gD cur k := fun k => gD_set (by omega)
  refine ⟨by simp [hcl], by omega, by omega, fun _ => by omega, fun k h1 h2 => ?_, fun j k h1 h2 => ?_, fun k h1 => ?_, fun _ k h1 h2 => ?_, fun d => ?_⟩
  · rw [hg, if_neg (by omega)]; exact h.rest k (by omega) h2
  · rw [hg, hg, if_neg (by omega)]
    by_cases e : k = n
    · rw [if_pos e]
      rcases hn with hn | hn
      · omega
      · by_cases e2 : j = n - 1
        · subst e2; exact hn
        · have h3 := h.gap j (n - 1) (by omega) (by omega)
          have h4 := h.ok (n - 1) (by omega)
          omega
    · rw [if_neg e]; exact h.gap j k h1 (by omega)
  · rw [hg]
    by_cases e : k = n
    · rw [if_pos e]; exact hok i hi
    · rw [if_neg e]; exact h.ok k (by omega)
  · rw [hg, if_pos (by omega)]; exact hs.at (by omega) h2
  · rw [take_gD (by simp; omega), hg, if_pos rfl, set_take (Nat.le_refl _), memB_app, ← h.mem d, drop_gD hi, memB_cons, memB_cons, memB_nil]
    simp [Bool.or_assoc]
theorem MergeI.join {l cur : List PSpan} {n i : Nat} (h : MergeI l cur n i) (hi : i < l.length) (hs : SortS l) (hok : ∀ k, k < l.length → 0 ≤ (gD l k).from_ ∧ (gD l k).from_ < (gD l k).to ∧ (gD l k).to ≤ 1048577)
    (hn : 0 < n) (hle : (gD cur i).from_ ≤ (gD cur (n - 1)).to) (x : Int) (hx : x = mxI (gD cur (n - 1)).to (gD cur i).to) : MergeI l (cur.set (n - 1) ⟨(gD cur (n - 1)).from_, x⟩) n (i + 1) := by
  rw [h.rest i (Nat.le_refl _) hi] at hle
  rw [h.rest i (Nat.le_refl _) hi, mxI_eq] at hx
  have hl := h.le
  have hcl := h.len
  have hg : ∀ k, gD (cur.set (n - 1) ⟨(gD cur (n - 1)).from_, x⟩) k = if k = n - 1 then ⟨(gD cur (n - 1)).from_, x⟩ else gD cur k := fun k => gD_set (by omega)
  have h4 := h.ok (n - 1) (by omega)
  have h5 := hok i hi
  have h6 := h.last hn i (Nat.le_refl _) hi
  refine ⟨by simp [hcl], by omega, by omega, fun _ => hn, fun k h1 h2 => ?_, fun j k h1 h2 => ?_, fun k h1 => ?_, fun _ k h1 h2 => ?_, fun d => ?_⟩
  · rw [hg, if_neg (by omega)]; exact h.rest k (by omega) h2
  · rw [hg, hg, if_neg (by omega)]
    by_cases e : k = n - 1
    · rw [if_pos e]; subst e; exact h.gap j (n - 1) h1 h2
    · rw [if_neg e]; exact h.gap j k h1 (by omega)
  · rw [hg]
    by_cases e : k = n - 1
    · rw [if_pos e]; simp only []; omega
    · rw [if_neg e]; exact h.ok k (by omega)
  · rw [hg, if_pos rfl]; exact h.last hn k (by omega) h2
  · obtain ⟨m, rfl⟩ : ∃ m, n = m + 1 := ⟨n - 1, by omega⟩
    simp only [Nat.add_sub_cancel] at *
    rw [take_gD (by simp; omega), hg, if_pos rfl, set_take (Nat.le_refl _), memB_app, ← h.mem d, drop_gD hi, memB_cons (gD l i), take_gD (by omega), memB_app, memB_cons, memB_cons, memB_nil, Bool.or_false, Bool.or_false]
    have e : decide ((gD cur m).from_ ≤ d ∧ d < x) = (decide ((gD cur m).from_ ≤ d ∧ d < (gD cur m).to) || decide ((gD l i).from_ ≤ d ∧ d < (gD l i).to)) := by
      rw [← Bool.decide_or]
      congr 1; refine propext ⟨fun h => ?_, fun h => ?_⟩ <;> omega
    show (memB (cur.take m) d || decide ((gD cur m).from_ ≤ d ∧ d < x) || memB (l.drop (i + 1)) d) = _
    rw [e]
    cases memB (cur.take m) d <;> cases decide ((gD cur m).from_ ≤ d ∧ d < (gD cur m).to) <;> cases decide ((gD l i).from_ ≤ d ∧ d < (gD l i).to) <;> cases memB (l.drop (i + 1)) d <;> rfl
theorem MergeI.nrm {l cur : List PSpan} {n i : Nat} (h : MergeI l cur n i) : NrmS (cur.take n) := by
  have hl := h.le
  have hcl := h.len
  have hil := h.il
  have hlen : (cur.take n).length = n := by rw [List.length_take]; omega
  have hg : ∀ k (hk : k < (cur.take n).length), (cur.take n)[k] = gD cur k := fun k hk => by
    rw [List.getElem_take]; unfold gD List.getD; rw [List.getElem?_eq_getElem (by omega)]; rfl
  refine ⟨?_, fun s hs => ?_⟩
  · rw [List.pairwise_iff_getElem]
    intro j k hj hk hjk
    rw [hg j hj, hg k hk]
    exact h.gap j k hjk (by omega)
  · obtain ⟨k, hk, e⟩ := List.getElem_of_mem hs
    rw [← e, hg k hk]
    exact h.ok k (by omega)
theorem MergeI.done {l cur : List PSpan} {n i : Nat} (h : MergeI l cur n i) (hi : l.length ≤ i) (d : Int) : memB (cur.take n) d = memB l d := by
  rw [← h.mem d, List.drop_eq_nil_of_le hi, memB_nil, Bool.or_false]
theorem clipL_at {l l' : List PSpan} (hp : l'.Perm (clipL l)) : ∀ k, k < l'.length → 0 ≤ (gD l' k).from_ ∧ (gD l' k).from_ < (gD l' k).to ∧ (gD l' k).to ≤ 1048577 := fun k hk => clipL_ok (hp.mem_iff.1 (gD_mem hk))
/-- The normalized form of a list of spans. -/
noncomputable def normL (l : List PSpan) : List PSpan := nf (memB l)
theorem normL_eq {l r : List PSpan} (h : NrmS r) (hm : ∀ d, memB r d = memB (clipL l) d) : r = normL l := nf_eq h fun d => by rw [hm, clipL_mem]
theorem normL_nil {l : List PSpan} (h : clipL l = []) : [] = normL l := normL_eq nrm_nil fun d => by rw [h]
end Go.Ev

/- Sets of days: points in order and what lies between them; union, common part. Plain lists alone. -/
namespace Go.Ev
open Go

theorem compact_ok {zs : List Int} (hs : zs.Pairwise fun a b => a ≤ b) : (compactZ zs).Pairwise (fun a b => a < b) ∧ ∀ z, z ∈ compactZ zs ↔ z ∈ zs := by
  generalize hd : zs.toArray = d
  have hsz : d.size = zs.length := by rw [← hd]; simp
  have hx : ∀ j (hj : j < zs.length), d[j]! = zs[j] := fun j hj => by rw [getElem!_pos d j (by omega)]; subst hd; simp
  have mono : ∀ i j, i ≤ j → j < zs.length → d[i]! ≤ d[j]! := fun i j hij hj => by
    rcases Nat.lt_or_ge i j with q | q
    · rw [hx i (by omega), hx j hj]; exact List.pairwise_iff_getElem.1 hs i j (by omega) hj q
    · have : i = j := by omega
      subst this; exact Int.le_refl _
  have key : ∀ m, m ≤ zs.length → (Lib.compactUpTo d m).Pairwise (fun a b => a < b) ∧ (∀ z, z ∈ Lib.compactUpTo d m → ∃ j, j < m ∧ z = d[j]!) ∧ ∀ j, j < m → d[j]! ∈ Lib.compactUpTo d m := by
    intro m
    induction m with
    | zero => intro _; refine ⟨?_, ?_, ?_⟩ <;> simp [Lib.compactUpTo]
    | succ m ih =>
      intro hm
      obtain ⟨h1, h2, h3⟩ := ih (by omega)
      rw [Lib.compactUpTo_succ]
      cases hk : Lib.keeps d m with
      | true =>
        simp only [if_true]
        have hk' : m = 0 ∨ d[m]! ≠ d[m - 1]! := by simpa [Lib.keeps] using hk
        refine ⟨List.pairwise_append.2 ⟨h1, by simp, fun a ha b hb => ?_⟩, fun z hz => ?_, fun j hj => ?_⟩
        · obtain ⟨j, hj, rfl⟩ := h2 a ha
          have hb : b = d[m]! := by simpa using hb
          subst hb
          have e1 := mono j (m - 1) (by omega) (by omega)
          have e2 := mono (m - 1) m (by omega) (by omega)
          rcases hk' with e | e
          · omega
          · have : d[m]! ≠ d[m - 1]! := e
            omega
        · rcases List.mem_append.1 hz with h | h
          · obtain ⟨j, hj, e⟩ := h2 z h; exact ⟨j, by omega, e⟩
          · exact ⟨m, by omega, by simpa using h⟩
        · rcases Nat.lt_or_ge j m with q | q
          · exact List.mem_append_left _ (h3 j q)
          · have : j = m := by omega
            subst this; simp
      | false =>
        simp only [Bool.false_eq_true, if_false, List.append_nil]
        have hk' : ¬ (m = 0 ∨ d[m]! ≠ d[m - 1]!) := by
          intro h; rw [Lib.keeps, decide_eq_true h] at hk; cases hk
        have hm0 : m ≠ 0 := fun e => hk' (.inl e)
        have e : d[m]! = d[m - 1]! := Classical.byContradiction fun e => hk' (.inr e)
        refine ⟨h1, fun z hz => ?_, fun j hj => ?_⟩
        · obtain ⟨j, hj, e⟩ := h2 z hz; exact ⟨j, by omega, e⟩
        · rcases Nat.lt_or_ge j m with q | q
          · exact h3 j q
          · have : j = m := by omega
            subst this; rw [e]; exact h3 _ (by omega)
  obtain ⟨h1, h2, h3⟩ := key zs.length (Nat.le_refl _)
  have e : compactZ zs = Lib.compactUpTo d zs.length := by unfold compactZ Lib.compact; rw [hd]
  rw [e]
  refine ⟨h1, fun z => ⟨fun hz => ?_, fun hz => ?_⟩⟩
  · obtain ⟨j, hj, rfl⟩ := h2 z hz
    rw [hx j hj]; exact List.getElem_mem _
  · obtain ⟨j, hj, rfl⟩ := List.getElem_of_mem hz
    rw [← hx j hj]; exact h3 j hj

theorem NrmS.at {l : List PSpan} (h : NrmS l) {j k : Nat} (hjk : j < k) (hk : k < l.length) : (gD l j).to < (gD l k).from_ := by
  have := List.pairwise_iff_getElem.1 h.gap j k (by omega) hk hjk
  simpa [gD, List.getD, List.getElem?_eq_getElem hk, List.getElem?_eq_getElem (show j < l.length by omega)] using this
theorem NrmS.okAt {l : List PSpan} (h : NrmS l) {k : Nat} (hk : k < l.length) : 0 ≤ (gD l k).from_ ∧ (gD l k).from_ < (gD l k).to ∧ (gD l k).to ≤ 1048577 := h.ok _ (gD_mem hk)
theorem memB_at {l : List PSpan} {d : Int} : memB l d = true ↔ ∃ k, k < l.length ∧ (gD l k).from_ ≤ d ∧ d < (gD l k).to := by
  rw [memB_iff]
  constructor
  · rintro ⟨s, h1, h2⟩
    obtain ⟨k, hk, e⟩ := List.getElem_of_mem h1
    have : gD l k = s := by rw [← e]; simp [gD, List.getD, List.getElem?_eq_getElem hk]
    exact ⟨k, hk, by rw [this]; exact h2⟩
  · rintro ⟨k, hk, h2⟩
    exact ⟨_, gD_mem hk, h2⟩
theorem cmpI_zero {a b : Int} : eqI (cmpI a b) 0 = true ↔ a = b := by
  unfold cmpI
  cases h : ltI a b with
  | true => have := ltI_true h; constructor
            · intro h; cases h
            · intro h; omega
  | false =>
    have := ltI_false h
    cases h2 : ltI b a with
    | true => have := ltI_true h2; constructor
              · intro h; cases h
              · intro h; omega
    | false => have := ltI_false h2; exact ⟨fun _ => by omega, fun _ => rfl⟩
/-- Of spans in order the search finds the days. -/
theorem memS_eq {l : List PSpan} (h : NrmS l) (d : Int) : memS l d = memB l d := by
  have hi := cntS_iff (d := d) h.sort
  have hc := cntS_le l d
  rw [Bool.eq_iff_iff, memB_at]
  unfold memS isAt
  simp only [Bool.or_eq_true, Bool.and_eq_true]
  constructor
  · rintro (⟨h1, h2⟩ | ⟨h1, h2⟩)
    · have h1 := ltI_true h1
      simp only [Int.ofNat_eq_natCast] at h1
      have h2 := cmpI_zero.1 h2
      have := h.okAt (k := cntS l d) (by omega)
      exact ⟨cntS l d, by omega, by omega, by omega⟩
    · have h1 := ltI_true h1
      have h2 := ltI_true h2
      simp only [Int.ofNat_eq_natCast] at h1
      have h3 := ltI_true ((hi (cntS l d - 1) (by omega)).2 (by omega))
      exact ⟨cntS l d - 1, by omega, by omega, h2⟩
  · rintro ⟨k, hk, h1, h2⟩
    by_cases e : (gD l k).from_ = d
    · left
      have e1 : ¬ k < cntS l d := fun q => by have := ltI_true ((hi k hk).2 q); omega
      have e2 : ¬ cntS l d < k := fun q => by
        have h3 := h.at q hk
        have h4 := h.okAt (k := cntS l d) (by omega)
        have := (hi (cntS l d) (by omega)).1 (ltI_t (by omega))
        omega
      have e3 : cntS l d = k := by omega
      rw [e3]
      exact ⟨ltI_t (by simp only [Int.ofNat_eq_natCast]; omega), cmpI_zero.2 e⟩
    · right
      have e1 : k < cntS l d := (hi k hk).1 (ltI_t (by omega))
      have e2 : ¬ k + 1 < cntS l d := fun q => by
        have h3 := h.at (j := k) (k := k + 1) (by omega) (by omega)
        have := ltI_true ((hi (k + 1) (by omega)).2 q)
        omega
      have e3 : cntS l d - 1 = k := by omega
      rw [e3]
      exact ⟨ltI_t (by simp only [Int.ofNat_eq_natCast]; omega), ltI_t h2⟩

def ends (l : List PSpan) : List Int := l.flatMap fun s => [s.from_, s.to]
theorem ends_nil : ends [] = [] := rfl
theorem ends_cons (s : PSpan) (r : List PSpan) : ends (s :: r) = [s.from_, s.to] ++ ends r := by simp [ends]
theorem ends_len : ∀ (l : List PSpan), (ends l).length = 2 * l.length
  | [] => rfl
  | s :: r => by rw [ends_cons]; simp [ends_len r]; omega
theorem ends_mem {l : List PSpan} {s : PSpan} (h : s ∈ l) : s.from_ ∈ ends l ∧ s.to ∈ ends l := by
  unfold ends
  simp only [List.mem_flatMap, List.mem_cons, List.not_mem_nil, or_false]
  exact ⟨⟨s, h, .inl rfl⟩, ⟨s, h, .inr rfl⟩⟩
theorem ends_of {l : List PSpan} {z : Int} (h : z ∈ ends l) : ∃ s, s ∈ l ∧ (z = s.from_ ∨ z = s.to) := by
  unfold ends at h
  simpa only [List.mem_flatMap, List.mem_cons, List.not_mem_nil, or_false] using h
/-- What lies between one point and the next, where 'g' counts it. -/
def segs (g : Int → Bool) : List Int → List PSpan
  | [] => []
  | a :: r => match r with
    | [] => []
    | b :: _ => match g a with
      | true => ⟨a, b⟩ :: segs g r
      | false => segs g r
theorem segs_two (g : Int → Bool) (a b : Int) (r : List Int) : segs g (a :: b :: r) = match g a with | true => ⟨a, b⟩ :: segs g (b :: r) | false => segs g (b :: r) := by
  rw [segs]
theorem segs_len (g : Int → Bool) : ∀ (l : List Int), (segs g l).length ≤ l.length
  | [] => by simp [segs]
  | [_] => by simp [segs]
  | a :: b :: r => by
    rw [segs_two]
    have := segs_len g (b :: r)
    cases g a <;> simp at * <;> omega
def lastI : Int → List Int → Int
  | a, [] => a
  | _, b :: r => lastI b r
theorem lastI_ge : ∀ {r : List Int} {a : Int}, (a :: r).Pairwise (fun a b => a < b) → a ≤ lastI a r ∧ ∀ z, z ∈ r → z ≤ lastI a r
  | [], a, _ => ⟨Int.le_refl _, fun z h => by cases h⟩
  | b :: r, a, h => by
    obtain ⟨h1, h2⟩ := List.pairwise_cons.1 h
    have h3 := h1 b (List.mem_cons_self ..)
    obtain ⟨k1, k2⟩ := lastI_ge h2
    refine ⟨by rw [lastI]; omega, fun z hz => ?_⟩
    rw [lastI]
    rcases List.mem_cons.1 hz with e | e
    · rw [e]; exact k1
    · exact k2 z e
theorem segs_mem {g : Int → Bool} {C : List Int} (hg : ∀ x y, (∀ z, z ∈ C → z ≤ x ∨ y ≤ z) → ∀ d, x ≤ d → d < y → g d = g x) :
    ∀ (r : List Int) (a : Int), (a :: r).Pairwise (fun a b => a < b) → (∀ z, z ∈ C → z ≤ a ∨ z ∈ r) → ∀ d, memB (segs g (a :: r)) d = (decide (a ≤ d ∧ d < lastI a r) && g d)
  | [], a, _, _, d => by
    have : decide (a ≤ d ∧ d < lastI a []) = false := by rw [decide_eq_false_iff_not]; simp only [lastI]; omega
    rw [this]; rfl
  | b :: r, a, hp, hC, d => by
    obtain ⟨h1, h2⟩ := List.pairwise_cons.1 hp
    have hab := h1 b (List.mem_cons_self ..)
    obtain ⟨hb2, h3⟩ := List.pairwise_cons.1 h2
    have hl := (lastI_ge h2).1
    have ih := segs_mem hg r b h2 (fun z hz => by
      rcases hC z hz with e | e
      · exact .inl (by omega)
      · rcases List.mem_cons.1 e with e | e
        · exact .inl (by omega)
        · exact .inr e) d
    have hc : ∀ d, a ≤ d → d < b → g d = g a := hg a b fun z hz => by
      rcases hC z hz with e | e
      · exact .inl e
      · rcases List.mem_cons.1 e with e | e
        · exact .inr (by omega)
        · have := hb2 z e; exact .inr (by omega)
    have e0 : memB (segs g (a :: b :: r)) d = ((g a && decide (a ≤ d ∧ d < b)) || memB (segs g (b :: r)) d) := by
      rw [segs_two]
      cases g a with
      | true => rw [memB_cons, Bool.true_and]
      | false => rw [Bool.false_and, Bool.false_or]
    rw [e0, ih, show lastI a (b :: r) = lastI b r from rfl]
    by_cases q1 : a ≤ d ∧ d < b
    · have e1 : decide (b ≤ d ∧ d < lastI b r) = false := by rw [decide_eq_false_iff_not]; omega
      have e2 : decide (a ≤ d ∧ d < lastI b r) = true := by rw [decide_eq_true_eq]; omega
      rw [decide_eq_true q1, e1, e2, hc d q1.1 q1.2]; simp
    · have e2 : decide (a ≤ d ∧ d < lastI b r) = decide (b ≤ d ∧ d < lastI b r) := decide_eq_decide.2 ⟨fun h => by omega, fun h => by omega⟩
      rw [decide_eq_false q1, e2]; simp
/-- The points at which something may change. -/
def cutsOf (A : List PSpan) : List Int := compactZ (sortZ (ends A))
theorem cuts_ok (A : List PSpan) : (cutsOf A).Pairwise (fun a b => a < b) ∧ ∀ z, z ∈ cutsOf A ↔ z ∈ ends A := by
  obtain ⟨h1, h2⟩ := compact_ok (sortZ_sorted (ends A))
  exact ⟨h1, fun z => (h2 z).trans (sortZ_perm (ends A)).mem_iff⟩
theorem memB_const {A l : List PSpan} (hl : ∀ s, s ∈ l → s ∈ A) {x y : Int} (hz : ∀ z, z ∈ cutsOf A → z ≤ x ∨ y ≤ z) {d : Int} (h1 : x ≤ d) (h2 : d < y) : memB l d = memB l x := by
  have key : ∀ s, s ∈ l → ((s.from_ ≤ d ∧ d < s.to) ↔ (s.from_ ≤ x ∧ x < s.to)) := fun s hs => by
    obtain ⟨k1, k2⟩ := ends_mem (hl s hs)
    have := hz _ (((cuts_ok A).2 _).2 k1)
    have := hz _ (((cuts_ok A).2 _).2 k2)
    omega
  rw [Bool.eq_iff_iff, memB_iff, memB_iff]
  exact ⟨fun ⟨s, h3, h4⟩ => ⟨s, h3, (key s h3).1 h4⟩, fun ⟨s, h3, h4⟩ => ⟨s, h3, (key s h3).2 h4⟩⟩
/-- All the days that count. -/
theorem segs_both {op : Bool → Bool → Bool} (h0 : op false false = false) (A B : List PSpan) (d : Int) : memB (segs (fun d => op (memB A d) (memB B d)) (cutsOf (A ++ B))) d = op (memB A d) (memB B d) := by
  obtain ⟨h1, h2⟩ := cuts_ok (A ++ B)
  have out : ∀ (z1 z2 : Int), (∀ z, z ∈ cutsOf (A ++ B) → z1 ≤ z ∧ z ≤ z2) → ¬ (z1 ≤ d ∧ d < z2) → op (memB A d) (memB B d) = false := fun z1 z2 hz hd => by
    have no : ∀ l : List PSpan, (∀ s, s ∈ l → s ∈ A ++ B) → memB l d = false := fun l hl => by
      cases q : memB l d with
      | false => rfl
      | true =>
        obtain ⟨s, k1, k2, k3⟩ := memB_iff.1 q
        obtain ⟨k4, k5⟩ := ends_mem (hl s k1)
        have := hz _ ((h2 _).2 k4)
        have := hz _ ((h2 _).2 k5)
        omega
    rw [no A fun s hs => List.mem_append_left _ hs, no B fun s hs => List.mem_append_right _ hs, h0]
  cases hC : cutsOf (A ++ B) with
  | nil =>
    rw [segs, memB_nil]
    exact (out (d + 1) d (fun z hz => by rw [hC] at hz; cases hz) (by omega)).symm
  | cons a r =>
    rw [hC] at h1
    have hl := lastI_ge h1
    have hp := (List.pairwise_cons.1 h1).1
    rw [segs_mem (C := cutsOf (A ++ B)) (fun x y hz d h3 h4 => by
      show op (memB A d) (memB B d) = op (memB A x) (memB B x)
      rw [memB_const (A := A ++ B) (fun s hs => List.mem_append_left _ hs) hz h3 h4, memB_const (A := A ++ B) (fun s hs => List.mem_append_right _ hs) hz h3 h4]) r a h1 (fun z hz => by
      rw [hC] at hz
      rcases List.mem_cons.1 hz with e | e
      · exact .inl (by omega)
      · exact .inr e) d]
    by_cases q : a ≤ d ∧ d < lastI a r
    · rw [decide_eq_true q, Bool.true_and]
    · rw [decide_eq_false q, Bool.false_and]
      refine (out a (lastI a r) (fun z hz => ?_) q).symm
      rw [hC] at hz
      rcases List.mem_cons.1 hz with e | e
      · rw [e]; exact ⟨Int.le_refl _, hl.1⟩
      · have := hp z e; exact ⟨by omega, hl.2 z e⟩
theorem cutsOf_len (A : List PSpan) : (cutsOf A).length ≤ 2 * A.length := by
  have := compactZ_le (sortZ (ends A))
  have h2 := (sortZ_perm (ends A)).length_eq
  rw [ends_len] at h2
  unfold cutsOf; omega
theorem gD_appL {α : Type} [Inhabited α] {l z : List α} {k : Nat} (h : k < l.length) : gD (l ++ z) k = gD l k := by
  simp [gD, List.getD, List.getElem?_append_left h]
theorem segs_drop {g : Int → Bool} {C : List Int} {x : Nat} (h1 : 1 ≤ x) (h2 : x < C.length) : segs g (C.drop (x - 1)) = match g (gD C (x - 1)) with | true => ⟨gD C (x - 1), gD C x⟩ :: segs g (C.drop (x + 1 - 1)) | false => segs g (C.drop (x + 1 - 1)) := by
  have e1 := drop_gD (l := C) (n := x - 1) (by omega)
  rw [show x - 1 + 1 = x from by omega] at e1
  have e2 := drop_gD (l := C) (n := x) h2
  rw [e1, e2, segs_two, ← e2, Nat.add_sub_cancel]
theorem segs_drop_y {g : Int → Bool} {C Z : List Int} {x : Nat} (h1 : 1 ≤ x) (h2 : x < C.length) (hg : g (gD (C ++ Z) (x - 1)) = true) : segs g (C.drop (x - 1)) = ⟨gD (C ++ Z) (x - 1), gD (C ++ Z) x⟩ :: segs g (C.drop (x + 1 - 1)) := by
  rw [gD_appL (by omega)] at hg
  rw [segs_drop h1 h2, hg, gD_appL (by omega), gD_appL h2]
theorem segs_drop_n {g : Int → Bool} {C Z : List Int} {x : Nat} (h1 : 1 ≤ x) (h2 : x < C.length) (hg : g (gD (C ++ Z) (x - 1)) = false) : segs g (C.drop (x - 1)) = segs g (C.drop (x + 1 - 1)) := by
  rw [gD_appL (by omega)] at hg
  rw [segs_drop h1 h2, hg]
theorem segs_drop_end {g : Int → Bool} {C : List Int} {x : Nat} (h1 : 1 ≤ x) (h2 : C.length ≤ x) : segs g (C.drop (x - 1)) = [] := by
  have : (C.drop (x - 1)).length ≤ 1 := by rw [List.length_drop]; omega
  match C.drop (x - 1), this with
  | [], _ => rfl
  | [_], _ => rfl
  | _ :: _ :: _, h => simp at h
/-- Two sets of days, taken together by 'op'. -/
noncomputable def bothL (op : Bool → Bool → Bool) (a b : List PSpan) : List PSpan := nf fun d => op (memB a d) (memB b d)
theorem normL_nrm (l : List PSpan) : NrmS (normL l) := nf_nrm _
theorem normL_mem (l : List PSpan) (d : Int) : memB (normL l) d = (inR d && memB l d) := nf_mem _ d
theorem both_done {op : Bool → Bool → Bool} (h0 : op false false = false) {a b A B : List PSpan} (hA : normL a = A) (hB : normL b = B) : normL (segs (fun d => op (memS A d) (memS B d)) (cutsOf (A ++ B))) = bothL op a b := by
  have nA : NrmS A := hA ▸ normL_nrm a
  have nB : NrmS B := hB ▸ normL_nrm b
  have e : (fun d => op (memS A d) (memS B d)) = fun d => op (memB A d) (memB B d) := funext fun d => by rw [memS_eq nA, memS_eq nB]
  rw [e]
  unfold normL bothL
  refine nf_congr fun d hd => ?_
  rw [segs_both h0, ← hA, ← hB, normL_mem, normL_mem, hd, Bool.true_and, Bool.true_and]
end Go.Ev

/- What is read as data lies in memory as a list of structures: arguments of a law as Lean data. -/
namespace Go.Ev
open Go
section
variable {H : Type} {enc : TypeId × Value → H} {P : Program} {w : World} {base : Nat} {spare : Nat → Bool} {held : Bool}

/-- Values against cells. -/
inductive VL (M : Mem) : List AV → List Value → Prop
  | nil : VL M [] []
  | cons {x : AV} {v : Value} {xs : List AV} {vs : List Value} (h : VRel (fun _ => none) M x v) (t : VL M xs vs) : VL M (x :: xs) (v :: vs)
theorem VL.append {M : Mem} {xs ys : List AV} {a b : List Value} (h : VL M xs a) (k : VL M ys b) : VL M (xs ++ ys) (a ++ b) := by
  induction h with
  | nil => exact k
  | cons h _ ih => exact .cons h ih
theorem VL.len {M : Mem} {xs : List AV} {a : List Value} (h : VL M xs a) : xs.length = a.length := by
  induction h with
  | nil => rfl
  | cons _ _ ih => simp [ih]
theorem VL.at_ {M : Mem} {xs : List AV} {a : List Value} (h : VL M xs a) : ∀ (j : Nat) (y : AV), xs[j]? = some y → ∃ v, a[j]? = some v ∧ VRel (fun _ => none) M y v := by
  induction h with
  | nil => intro j y hj; simp at hj
  | cons h _ ih =>
    intro j y hj
    cases j with
    | zero => simp at hj; subst hj; exact ⟨_, rfl, h⟩
    | succ j => simp at hj; simpa using ih j y hj
theorem VL.one {M : Mem} {x : AV} {cs : List Value} (h : VL M [x] cs) : ∃ v, cs = [v] ∧ VRel (fun _ => none) M x v := by
  cases h with
  | cons h t => cases t; exact ⟨_, rfl, h⟩

/-- Nothing met in reading it takes more than there are addresses. -/
def Wt (P : Program) (t : TypeId) (d : DataW H) : Prop := ∀ m, m ∈ d.weights P t → m ≤ reachBytes
theorem weightsAll_mem {e : TypeId} {d : DataW H} {m : Nat} (hm : m ∈ d.weights P e) : ∀ {l : List (DataW H)}, d ∈ l → m ∈ DataW.weightsAll P e l
  | [], h => by cases h
  | a :: r, h => by
    unfold DataW.weightsAll
    rcases List.mem_cons.1 h with rfl | h
    · exact List.mem_append_left _ hm
    · exact List.mem_append_right _ (weightsAll_mem hm h)
theorem weightsEach_mem {t : TypeId} {d : DataW H} {m : Nat} (hm : m ∈ d.weights P t) : ∀ {ts : List TypeId} {l : List (DataW H)} (i : Nat), ts[i]? = some t → l[i]? = some d → m ∈ DataW.weightsEach P ts l
  | [], _, i, h, _ => by simp at h
  | _ :: _, [], i, _, h => by simp at h
  | u :: ts, a :: r, i, h1, h2 => by
    unfold DataW.weightsEach
    cases i with
    | zero => simp at h1 h2; subst h1; subst h2; exact List.mem_append_left _ hm
    | succ i => exact List.mem_append_right _ (weightsEach_mem hm i (by simpa using h1) (by simpa using h2))

/-- Fields lie one behind the other. -/
def consec (P : Program) : List Field → Nat → Nat → Bool
  | [], off, n => Nat.beq off n
  | f :: r, off, n => Nat.beq f.offset off && consec P r (off + P.cellsOf f.type) n
def VF (M : Mem) (P : Program) (cs : List Value) : List Field → List (List AV) → Prop
  | [], [] => True
  | f :: fs, xs :: xss => VL M xs ((cs.drop f.offset).take (P.cellsOf f.type)) ∧ VF M P cs fs xss
  | _, _ => False
theorem VF.vl {M : Mem} {cs : List Value} : ∀ {fs : List Field} {xss : List (List AV)} {off : Nat}, consec P fs off cs.length = true → VF M P cs fs xss → VL M xss.flatten (cs.drop off)
  | [], [], off, h, _ => by
    have := Nat.eq_of_beq_eq_true h
    rw [this, List.drop_length]; exact .nil
  | [], _ :: _, _, _, h => h.elim
  | _ :: _, [], _, _, h => h.elim
  | f :: fs, xs :: xss, off, h, k => by
    unfold consec at h
    rw [Bool.and_eq_true] at h
    have ho := Nat.eq_of_beq_eq_true h.1
    have h1 := k.1
    rw [ho] at h1
    have h2 := VF.vl h.2 k.2
    have e : cs.drop off = (cs.drop off).take (P.cellsOf f.type) ++ cs.drop (off + P.cellsOf f.type) := by
      rw [← List.drop_drop, List.take_append_drop]
    rw [List.flatten_cons, e]
    exact h1.append h2
/-- Each field is read as data. -/
def TF (enc : TypeId × Value → H) (P : Program) (w : World) (base : Nat) (spare : Nat → Bool) (held : Bool) (n : Nat) (cs : List Value) : List Field → Prop
  | [] => True
  | f :: fs => (∃ d p, DataW.trod enc P w base spare held n f.type ((cs.drop f.offset).take (P.cellsOf f.type)) = some (d, p) ∧ Wt P f.type d) ∧ TF enc P w base spare held n cs fs
theorem TF_of {n : Nat} {cs : List Value} : ∀ (fs : List Field), (∀ (i : Nat) (f : Field), fs[i]? = some f → ∃ d p, DataW.trod enc P w base spare held n f.type ((cs.drop f.offset).take (P.cellsOf f.type)) = some (d, p) ∧ Wt P f.type d) → TF enc P w base spare held n cs fs
  | [], _ => trivial
  | f :: fs, h => ⟨h 0 f rfl, TF_of fs fun i g hg => h (i + 1) g (by simpa using hg)⟩
theorem struct_vl {t : TypeId} {fs : Array Field} {fuel : Nat} {cs : List Value} {d : DataW H} {p : List MemPlace} (hu : P.underlying t = some (.struct fs)) (hc : consec P fs.toList 0 (P.cellsOf t) = true)
    (h : DataW.trod enc P w base spare held fuel t cs = some (d, p)) (hw : Wt P t d) :
    ∃ n, fuel = n + 1 ∧ TF enc P w base spare held n cs fs.toList ∧ ∀ xss, VF (memOf w) P cs fs.toList xss → VL (memOf w) xss.flatten cs := by
  obtain ⟨xs, n, rfl, h1, h2, h3, h4⟩ := DataW.trod_struct hu h
  simp only [Prod.mk.injEq] at h1
  obtain ⟨rfl, _⟩ := h1
  refine ⟨n, rfl, TF_of _ fun i f hf => ?_, fun xss hx => ?_⟩
  · have hf' : fs[i]? = some f := by simpa using hf
    have hi : i < xs.length := by rw [h3]; exact (Array.getElem?_eq_some_iff.1 hf').1
    have e := h4 i f hf'
    rw [List.getElem?_eq_getElem hi] at e
    refine ⟨xs[i].1, xs[i].2, e, fun m hm => hw m ?_⟩
    unfold DataW.weights
    rw [hu]
    exact weightsEach_mem hm i (by rw [List.getElem?_map, hf]; rfl) (by rw [List.getElem?_map, List.getElem?_eq_getElem hi]; rfl)
  · have := VF.vl (off := 0) (by rw [h2]; exact hc) hx
    simpa using this

theorem int_vl {t : TypeId} {fuel : Nat} {cs : List Value} {d : DataW H} {p : List MemPlace} (hu : P.underlying t = some (.int .i64)) (h : DataW.trod enc P w base spare held fuel t cs = some (d, p)) : ∃ x, VL (memOf w) [.int .i64 x] cs := by
  obtain ⟨x, rfl, _⟩ := DataW.trod_int hu h
  exact ⟨x, .cons (.int _ _) .nil⟩
theorem str_vl {t : TypeId} {fuel : Nat} {cs : List Value} {d : DataW H} {p : List MemPlace} (hu : P.underlying t = some .string) (h : DataW.trod enc P w base spare held fuel t cs = some (d, p)) : ∃ s, VL (memOf w) [.str s] cs := by
  obtain ⟨⟨⟨s⟩⟩, rfl, _⟩ := DataW.trod_string hu h
  exact ⟨s, .cons (.str _) .nil⟩

theorem list_of {α : Type} {Q : Nat → α → Prop} : ∀ (n : Nat), (∀ i, i < n → ∃ x, Q i x) → ∃ l : List α, l.length = n ∧ ∀ i x, l[i]? = some x → Q i x
  | 0, _ => ⟨[], rfl, fun i x h => by simp at h⟩
  | n + 1, h => by
    obtain ⟨l, h1, h2⟩ := list_of n fun i hi => h i (by omega)
    obtain ⟨y, hy⟩ := h n (by omega)
    refine ⟨l ++ [y], by simp [h1], fun i x hx => ?_⟩
    by_cases hi : i < l.length
    · rw [List.getElem?_append_left hi] at hx; exact h2 i x hx
    · rw [List.getElem?_append_right (by omega)] at hx
      have : i - l.length = 0 := by
        cases hq : i - l.length with
        | zero => rfl
        | succ k => rw [hq] at hx; simp at hx
      rw [this] at hx; simp at hx; subst hx
      have : i = n := by omega
      rw [this]; exact hy

theorem Sc_of {x : AV} (h : x.cells.all scalB = true) : Sc x := fun y hy => List.all_eq_true.1 h y hy

theorem slice_vl {α : Type} (el : α → AV) (fit : α → Prop) {t e : TypeId} {fuel : Nat} {cs : List Value} {d : DataW H} {p : List MemPlace} (hu : P.underlying t = some (.slice e)) (hsz : Nat.blt 0 (P.cellsOf e) = true) (hby : Nat.blt 0 (P.bytesOf e) = true)
    (hel : ∀ x, (el x).cells.length = P.cellsOf e) (hsc : ∀ x, (el x).cells.all scalB = true) (htop : ∀ x, (el x).top = 0)
    (hrec : ∀ m, m < fuel → ∀ cs d p, DataW.trod enc P w base spare held m e cs = some (d, p) → Wt P e d → ∃ x, fit x ∧ VL (memOf w) (el x).cells cs)
    (h : DataW.trod enc P w base spare held fuel t cs = some (d, p)) (hw : Wt P t d) :
    ∃ l : List α, l.length < 2 ^ 60 ∧ (∀ x, x ∈ l → fit x) ∧ VL (memOf w) [.ls (l.map el)] cs := by
  rw [blt_iff] at hsz hby
  simp only [decide_eq_true_eq] at hsz hby
  rcases DataW.trod_slice hu h with ⟨rfl, _⟩ | ⟨a, len, cap, elems, rest, n, rfl, rfl, h1, h2, h3, h4, h5, h6, _, _⟩
  · exact ⟨[], Nat.two_pow_pos 60, fun x h => absurd h (List.not_mem_nil), .cons .lsn .nil⟩
  · simp only [Prod.mk.injEq] at h1
    obtain ⟨rfl, _⟩ := h1
    have hwl : len < 2 ^ 60 := by
      have := hw ((elems.length + rest.length) * P.bytesOf e) (by
        unfold DataW.weights
        rw [hu]
        simp)
      have h7 : elems.length ≤ (elems.length + rest.length) * P.bytesOf e := Nat.le_trans (Nat.le_add_right _ _) (Nat.le_mul_of_pos_right _ hby)
      have : elems.length ≤ reachBytes := Nat.le_trans h7 this
      rw [h5] at this
      exact Nat.lt_of_le_of_lt this (by decide)
    have el0 : ∀ i, i < len → ∃ x, fit x ∧ ∃ cs : List Value, cs.length = P.cellsOf e ∧ (∀ j, j < P.cellsOf e → w.cell? ((a.add (i * P.cellsOf e)).add j) = cs[j]?) ∧ VL (memOf w) (el x).cells cs := by
      intro i hi
      have k5 := h6 i hi
      have hi' : i < elems.length := by omega
      rw [List.getElem?_eq_getElem hi'] at k5
      simp only [Option.bind_eq_some_iff] at k5
      obtain ⟨cs, c1, c2⟩ := k5
      obtain ⟨z1, z2⟩ := cells?_at c1
      obtain ⟨x, f1, f2⟩ := hrec n (by omega) cs elems[i].1 elems[i].2 c2 (fun m hm => hw m (by
        unfold DataW.weights
        rw [hu]
        exact List.mem_cons_of_mem _ (List.mem_append_left _ (weightsAll_mem hm (List.mem_map.2 ⟨elems[i], List.getElem_mem hi', rfl⟩)))))
      exact ⟨x, f1, cs, z1, z2, f2⟩
    obtain ⟨l, q1, q2⟩ := list_of len el0
    refine ⟨l, by omega, fun x hx => ?_, .cons ?_ .nil⟩
    · obtain ⟨i, hi⟩ := List.mem_iff_getElem?.1 hx
      exact (q2 i x hi).1
    · have q1' : (l.map el).length = len := by rw [List.length_map, q1]
      generalize hys : l.map el = ys at *
      have q3 : ∀ i y, ys[i]? = some y → ∃ cs : List Value, cs.length = P.cellsOf e ∧ (∀ j, j < P.cellsOf e → w.cell? ((a.add (i * P.cellsOf e)).add j) = cs[j]?) ∧ VL (memOf w) y.cells cs := by
        intro i y hy
        rw [← hys, List.getElem?_map, Option.map_eq_some_iff] at hy
        obtain ⟨x, hx, rfl⟩ := hy
        exact (q2 i x hx).2
      have q4 : ∀ y, y ∈ ys → y.cells.length = P.cellsOf e ∧ Sc y := by
        intro y hy
        rw [← hys, List.mem_map] at hy
        obtain ⟨x, _, rfl⟩ := hy
        exact ⟨hel x, Sc_of (hsc x)⟩
      have q5 : AV.tops ys = 0 := by rw [← hys]; exact tops_map htop l
      have addadd : ∀ i j : Nat, a.spot = none → (a.add i).add j = ⟨a.block, a.off + i + j, none⟩ := by
        intro i j hs
        obtain ⟨blk, off, spot⟩ := a
        simp at hs
        subst hs
        by_cases hi : i = 0 <;> by_cases hj : j = 0 <;> simp [Addr.add, hi, hj]
      have spot : ys ≠ [] → a.spot = none := by
        intro hne
        obtain ⟨x, hx⟩ : ∃ x, ys[0]? = some x := by
          cases ys with
          | nil => exact absurd rfl hne
          | cons x r => exact ⟨x, rfl⟩
        obtain ⟨cs, c1, c2, _⟩ := q3 0 x hx
        have := c2 0 hsz
        rw [List.getElem?_eq_getElem (by omega)] at this
        simp only [Nat.zero_mul] at this
        have := (cell?_mem this).1
        simpa [Addr.add] using this
      have cell : ∀ (i j : Nat) (x : AV), ys[i]? = some x → j < P.cellsOf e → ∃ c v, memOf w a.block = some c ∧ c[a.off + i * P.cellsOf e + j]? = some v ∧ ∀ y, x.cells[j]? = some y → VRel (fun _ => none) (memOf w) y v := by
        intro i j x hx hj
        obtain ⟨cs, c1, c2, c3⟩ := q3 i x hx
        have := c2 j hj
        rw [List.getElem?_eq_getElem (by omega), addadd _ _ (spot (by intro h; rw [h] at hx; simp at hx))] at this
        obtain ⟨_, c, m1, m2⟩ := cell?_mem this
        refine ⟨c, _, m1, m2, fun y hy => ?_⟩
        obtain ⟨v, g1, g2⟩ := c3.at_ j y hy
        rw [List.getElem?_eq_getElem (by omega)] at g1
        cases g1
        exact g2
      refine .lsp ?_ q5
      by_cases hne : ys = []
      · subst hne
        simp at q1'
        subst q1'
        exact .ps (sz := P.cellsOf e) (c := #[]) (by simp) (fun h => by cases h) (fun h => absurd rfl h) (fun x h => by simp at h) (fun i x j y h => by simp at h)
      · have hlen : 0 < ys.length := List.length_pos_iff.2 hne
        obtain ⟨x0, hx0⟩ : ∃ x, ys[ys.length - 1]? = some x := ⟨ys[ys.length - 1], by simp⟩
        obtain ⟨c, v0, m1, m2, _⟩ := cell (ys.length - 1) (P.cellsOf e - 1) x0 hx0 (by omega)
        have hc := (Array.getElem?_eq_some_iff.1 m2).1
        have hfit : a.off + ys.length * P.cellsOf e ≤ c.size := by
          have h1 : (ys.length - 1) * P.cellsOf e + P.cellsOf e = ys.length * P.cellsOf e := by
            rw [← Nat.succ_mul]; congr 1; omega
          omega
        have := VRel.ps (pl := fun _ => none) (M := memOf w) (xs := ys) (tight := false) (a := a) (cap := cap) (sz := P.cellsOf e) (c := c) (by omega) (fun h => by cases h) (fun _ => ⟨spot hne, m1, hfit, hsz⟩) q4
          (fun i x j y hx hy => by
            obtain ⟨r1, _⟩ := q4 x (List.mem_of_getElem? hx)
            have hj : j < P.cellsOf e := by rw [← r1]; exact (List.getElem?_eq_some_iff.1 hy).1
            obtain ⟨c', v, n1, n2, n3⟩ := cell i j x hx hj
            rw [m1] at n1
            cases n1
            rw [Array.getD_eq_getD_getElem?, n2]
            exact n3 y hy)
        rw [q1'] at this
        exact this
end
end Go.Ev

/- Words counted by the act that wrote them. -/
namespace Go.Ev
open Go

structure PPair where
  a : Int
  b : Int
deriving Inhabited, DecidableEq
def encPair (p : PPair) : AV := .agg [.int .i64 p.a, .int .i64 p.b]
theorem encPair_top (p : PPair) : (encPair p).top = 0 := rfl
structure PRef where
  act : Int
  item : Int
deriving Inhabited, DecidableEq
def encRef (p : PRef) : AV := .agg [.int .i64 p.act, .int .i64 p.item]
theorem encRef_top (p : PRef) : (encRef p).top = 0 := rfl

/-- The words of a unit; of a tree. -/
def wordsOf (u : TUnit) : List PWord := u.head ++ u.words
mutual
def allW : TUnit → List PWord
  | ⟨_, _, _, _, _, h, w, ks⟩ => (h ++ w) ++ allWs ks
def allWs : List TUnit → List PWord
  | [] => []
  | k :: r => allW k ++ allWs r
end
theorem allW_eq (u : TUnit) : allW u = wordsOf u ++ allWs u.kids := by
  obtain ⟨a, b, c, d, e, h, w, ks⟩ := u; rw [allW]; rfl
theorem allWs_nil : allWs [] = [] := by rw [allWs]
theorem allWs_cons (k : TUnit) (r : List TUnit) : allWs (k :: r) = allW k ++ allWs r := by rw [allWs]

/-- How many of them an act wrote. -/
def getC (k : Int) (m : List (Int × Int)) : Int := (getI k m).getD 0
def incr (m : List (Int × Int)) (w : PWord) : List (Int × Int) := setI w.act (getC w.act m + 1) m
def tally (ws : List PWord) (m : List (Int × Int)) : List (Int × Int) := ws.foldl incr m
def cnt (k : Int) : List PWord → Int
  | [] => 0
  | w :: r => (match eqI w.act k with | true => 1 | false => 0) + cnt k r
theorem cnt_nil (k : Int) : cnt k [] = 0 := rfl
theorem cnt_append (k : Int) : ∀ (a b : List PWord), cnt k (a ++ b) = cnt k a + cnt k b
  | [], b => by simp [cnt]
  | w :: r, b => by simp only [List.cons_append, cnt, cnt_append k r b]; omega
theorem cnt_le (k : Int) : ∀ (a : List PWord), 0 ≤ cnt k a ∧ cnt k a ≤ Int.ofNat a.length
  | [] => ⟨Int.le_refl _, Int.le_refl _⟩
  | w :: r => by
    have := cnt_le k r
    simp only [cnt, List.length_cons, Int.ofNat_eq_natCast] at *
    cases eqI w.act k <;> simp only <;> omega

theorem getI_setI (k j v : Int) : ∀ (m : List (Int × Int)), getI k (setI j v m) = if k = j then some v else getI k m
  | [] => by
    simp only [setI, getI]
    by_cases h : k = j
    · subst h; simp [eqI_refl]
    · have : eqI k j = false := by rw [eqI_iff]; exact decide_eq_false h
      simp [this, h]
  | (i, x) :: r => by
    simp only [setI]
    by_cases hji : j = i
    · subst hji
      simp only [eqI_refl, getI]
      by_cases h : k = j
      · subst h; simp [eqI_refl]
      · have : eqI k j = false := by rw [eqI_iff]; exact decide_eq_false h
        simp [this, h]
    · have e : eqI j i = false := by rw [eqI_iff]; exact decide_eq_false hji
      simp only [e, getI]
      by_cases hki : k = i
      · subst hki
        have : ¬ k = j := fun h => hji h.symm
        simp [eqI_refl, this]
      · have e2 : eqI k i = false := by rw [eqI_iff]; exact decide_eq_false hki
        simp only [e2]
        exact getI_setI k j v r
theorem getC_set (k j v : Int) (m : List (Int × Int)) : getC k (setI j v m) = if k = j then v else getC k m := by
  unfold getC; rw [getI_setI]; split <;> rfl
theorem getC_incr (k : Int) (m : List (Int × Int)) (w : PWord) : getC k (incr m w) = getC k m + cnt k [w] := by
  unfold incr
  rw [getC_set]
  simp only [cnt, eqI_iff]
  by_cases h : k = w.act
  · subst h; simp
  · have : ¬ w.act = k := fun e => h e.symm
    simp [h, this]
theorem getC_tally (k : Int) : ∀ (ws : List PWord) (m : List (Int × Int)), getC k (tally ws m) = getC k m + cnt k ws
  | [], m => by simp [tally, cnt]
  | w :: r, m => by
    show getC k (tally r (incr m w)) = _
    rw [getC_tally k r, getC_incr]
    simp only [cnt]; omega
theorem tally_append (a b : List PWord) (m : List (Int × Int)) : tally (a ++ b) m = tally b (tally a m) := List.foldl_append ..
theorem tally_nil (m : List (Int × Int)) : tally [] m = m := rfl
theorem tally_cons (w : PWord) (r : List PWord) (m : List (Int × Int)) : tally (w :: r) m = tally r (incr m w) := rfl

/-- Keys stand once. -/
def Keys (m : List (Int × Int)) : Prop := (m.map (·.1)).Nodup
theorem getI_some {k v : Int} : ∀ {m : List (Int × Int)}, getI k m = some v → (k, v) ∈ m
  | [], h => by cases h
  | (i, x) :: r, h => by
    simp only [getI] at h
    cases e : eqI k i with
    | true => rw [e] at h; cases h; rw [eqI_t e]; exact List.mem_cons_self ..
    | false => rw [e] at h; exact List.mem_cons_of_mem _ (getI_some h)
theorem getI_none {k : Int} : ∀ {m : List (Int × Int)}, getI k m = none → ¬ k ∈ m.map (·.1)
  | [], _ => by simp
  | (i, x) :: r, h => by
    simp only [getI] at h
    cases e : eqI k i with
    | true => rw [e] at h; cases h
    | false =>
      rw [e] at h
      have := getI_none h
      simp only [List.map_cons, List.mem_cons]
      rintro (h1 | h1)
      · exact eqI_f e h1
      · exact this h1
theorem Keys.get {k v : Int} : ∀ {m : List (Int × Int)}, Keys m → (k, v) ∈ m → getI k m = some v
  | [], _, h => by cases h
  | (i, x) :: r, hk, h => by
    unfold Keys at hk
    rw [List.map_cons, List.nodup_cons] at hk
    simp only [getI]
    rcases List.mem_cons.1 h with h1 | h1
    · cases h1; rw [eqI_refl]
    · have hne : ¬ k = i := fun e => hk.1 (e ▸ List.mem_map.2 ⟨_, h1, rfl⟩)
      have e : eqI k i = false := by rw [eqI_iff]; exact decide_eq_false hne
      rw [e]; exact Keys.get hk.2 h1
theorem setI_keys (j v : Int) : ∀ (m : List (Int × Int)), (setI j v m).map (·.1) = if j ∈ m.map (·.1) then m.map (·.1) else m.map (·.1) ++ [j]
  | [] => by simp [setI]
  | (i, x) :: r => by
    simp only [setI]
    by_cases h : j = i
    · subst h; simp [eqI_refl]
    · have e : eqI j i = false := by rw [eqI_iff]; exact decide_eq_false h
      simp only [e, List.map_cons, setI_keys j v r, List.mem_cons, h, false_or]
      split <;> simp
theorem Keys.set {m : List (Int × Int)} (h : Keys m) (j v : Int) : Keys (setI j v m) := by
  unfold Keys at *
  rw [setI_keys]
  split
  · exact h
  · rename_i hn
    rw [List.nodup_append]
    refine ⟨h, by simp, fun a ha b hb => ?_⟩
    simp at hb; subst hb
    exact fun e => hn (e ▸ ha)
theorem Keys.tally : ∀ (ws : List PWord) {m : List (Int × Int)}, Keys m → Keys (tally ws m)
  | [], _, h => h
  | w :: r, _, h => Keys.tally r (h.set _ _)
theorem Keys.nil : Keys [] := List.nodup_nil

/-- What stands in the table: the acts with a word or more, and how many. -/
theorem tally_mem {ws : List PWord} {k v : Int} : (k, v) ∈ tally ws [] ↔ (k, v) = (k, cnt k ws) ∧ 0 < v := by
  have hk : Keys (Ev.tally ws []) := Keys.tally ws Keys.nil
  have hc : getC k (Ev.tally ws []) = cnt k ws := by rw [getC_tally]; simp [getC, getI]
  have pos : ∀ (l : List PWord) (m : List (Int × Int)), (∀ p, p ∈ m → 0 < p.2) → ∀ p, p ∈ Ev.tally l m → 0 < p.2 := by
    intro l
    induction l with
    | nil => intro m h p hp; exact h p hp
    | cons w r ih =>
      intro m h p hp
      refine ih (incr m w) (fun q hq => ?_) p hp
      have g0 : 0 ≤ getC w.act m := by
        unfold getC
        cases e : getI w.act m with
        | none => exact Int.le_refl _
        | some x => exact Int.le_of_lt (h _ (getI_some e))
      have key : ∀ (j v : Int), 0 < v → ∀ (m : List (Int × Int)), (∀ p, p ∈ m → 0 < p.2) → ∀ q, q ∈ setI j v m → 0 < q.2 := by
        intro j v hv m
        induction m with
        | nil => intro _ q hq; simp [setI] at hq; subst hq; exact hv
        | cons c r ih =>
          obtain ⟨i, x⟩ := c
          intro h q hq
          simp only [setI] at hq
          cases e : eqI j i with
          | true =>
            rw [e] at hq
            rcases List.mem_cons.1 hq with rfl | hq
            · exact hv
            · exact h q (List.mem_cons_of_mem _ hq)
          | false =>
            rw [e] at hq
            rcases List.mem_cons.1 hq with rfl | hq
            · exact h _ (List.mem_cons_self ..)
            · exact ih (fun p hp => h p (List.mem_cons_of_mem _ hp)) q hq
      exact key _ _ (by omega) m h q hq
  constructor
  · intro h
    have e := Keys.get hk h
    have h1 := pos ws [] (by simp) _ h
    unfold getC at hc
    rw [e] at hc
    simp at hc
    exact ⟨by rw [← hc], h1⟩
  · rintro ⟨e, h⟩
    cases e
    unfold getC at hc
    cases e : getI k (Ev.tally ws []) with
    | none => rw [e] at hc; simp at hc; omega
    | some x => rw [e] at hc; simp at hc; subst hc; exact getI_some e

/-- Lists that rise strictly are known by their members. -/
def Rise (l : List PPair) : Prop := l.Pairwise (fun x y => x.a < y.a)
theorem Rise.unique : ∀ {l m : List PPair}, Rise l → Rise m → (∀ p, p ∈ l ↔ p ∈ m) → l = m
  | [], [], _, _, _ => rfl
  | [], y :: m, _, _, h => absurd ((h y).2 (List.mem_cons_self ..)) (by simp)
  | x :: l, [], _, _, h => absurd ((h x).1 (List.mem_cons_self ..)) (by simp)
  | x :: l, y :: m, hl, hm, h => by
    have hl' := List.pairwise_cons.1 hl
    have hm' := List.pairwise_cons.1 hm
    have e : x = y := by
      rcases List.mem_cons.1 ((h x).1 (List.mem_cons_self ..)) with e | e
      · exact e
      rcases List.mem_cons.1 ((h y).2 (List.mem_cons_self ..)) with e2 | e2
      · exact e2.symm
      · have := hm'.1 _ e; have := hl'.1 _ e2; omega
    subst e
    congr 1
    refine Rise.unique hl'.2 hm'.2 fun p => ?_
    constructor
    · intro hp
      rcases List.mem_cons.1 ((h p).1 (List.mem_cons_of_mem _ hp)) with e | e
      · subst e; have := hl'.1 _ hp; omega
      · exact e
    · intro hp
      rcases List.mem_cons.1 ((h p).2 (List.mem_cons_of_mem _ hp)) with e | e
      · subst e; have := hm'.1 _ hp; omega
      · exact e

/-- The counts, by act. -/
def pairOf (p : Int × Int) : PPair := ⟨p.1, p.2⟩
def sharesL (ws : List PWord) : List PPair := ((tally ws []).map pairOf).mergeSort fun x y => decide (x.a ≤ y.a)
theorem pairs_nodup {m : List (Int × Int)} (h : Keys m) : (m.map pairOf).Pairwise (fun x y => x.a ≠ y.a) := by
  unfold Keys at h
  rw [List.nodup_iff_pairwise_ne, List.pairwise_map] at h
  rw [List.pairwise_map]
  exact h
theorem rise_of {l : List PPair} (h1 : l.Pairwise (fun x y => x.a ≤ y.a)) (h2 : l.Pairwise (fun x y => x.a ≠ y.a)) : Rise l :=
  (h1.and h2).imp fun {x y} h => by obtain ⟨h, k⟩ := h; omega
theorem perm_ne {l m : List PPair} (h : l.Perm m) (hm : m.Pairwise (fun x y => x.a ≠ y.a)) : l.Pairwise (fun x y => x.a ≠ y.a) :=
  (h.pairwise_iff (fun {x y} h e => h e.symm)).2 hm
theorem shares_rise (ws : List PWord) : Rise (sharesL ws) := by
  refine rise_of ?_ (perm_ne (List.mergeSort_perm ..) (pairs_nodup (Keys.tally ws Keys.nil)))
  have := List.pairwise_mergeSort (le := fun (x y : PPair) => decide (x.a ≤ y.a)) (fun a b c h1 h2 => by simp at *; omega) (fun a b => by simp; omega) ((tally ws []).map pairOf)
  exact this.imp fun {x y} h => by simpa using h
theorem shares_mem {ws : List PWord} {p : PPair} : p ∈ sharesL ws ↔ p.b = cnt p.a ws ∧ 0 < p.b := by
  unfold sharesL
  rw [(List.mergeSort_perm _ _).mem_iff, List.mem_map]
  constructor
  · rintro ⟨⟨k, v⟩, h1, rfl⟩
    obtain ⟨e, h⟩ := tally_mem.1 h1
    cases e
    exact ⟨rfl, h⟩
  · rintro ⟨h1, h2⟩
    exact ⟨(p.a, p.b), tally_mem.2 ⟨by rw [h1], h2⟩, rfl⟩
/-- Whatever rises strictly and holds the same is that list. -/
theorem shares_eq {ws : List PWord} {l : List PPair} (h : Rise l) (hm : ∀ p, p ∈ l ↔ p.b = cnt p.a ws ∧ 0 < p.b) : l = sharesL ws :=
  h.unique (shares_rise ws) fun p => (hm p).trans shares_mem.symm
theorem shares_perm {ws : List PWord} {l m : List PPair} (h : l.Perm m) (hm : m.Perm ((tally ws []).map pairOf)) (hs : l.Pairwise (fun x y => x.a ≤ y.a)) : l = sharesL ws :=
  (rise_of hs (perm_ne (h.trans hm) (pairs_nodup (Keys.tally ws Keys.nil)))).unique (shares_rise ws) fun p => by
    rw [(h.trans hm).mem_iff, sharesL, (List.mergeSort_perm _ _).mem_iff]

/-- Places of a list, each once, all of them. -/
theorem nodup_bound : ∀ (n : Nat) (s : List Nat), s.Nodup → (∀ i, i ∈ s → i < n) → s.length ≤ n
  | 0, s, _, h => by
    cases s with
    | nil => exact Nat.le_refl _
    | cons x r => exact absurd (h x (List.mem_cons_self ..)) (by omega)
  | n + 1, s, hs, h => by
    have h1 := nodup_bound n (s.erase n) (hs.erase n) fun i hi => by
      have h2 := (hs.mem_erase_iff).1 hi
      have := h i h2.2
      have := h2.1
      omega
    have := List.length_erase (a := n) (l := s)
    split at this <;> omega
theorem all_perm {n : Nat} {s : List Nat} (hs : s.Nodup) (h : ∀ i, i ∈ s → i < n) (hd : ∀ i, i < n → i ∈ s) : s.Perm (List.range n) :=
  (List.perm_ext_iff_of_nodup hs List.nodup_range).2 fun i => ⟨fun hi => List.mem_range.2 (h i hi), fun hi => hd i (List.mem_range.1 hi)⟩
theorem range_map {α : Type} [Inhabited α] (l : List α) : (List.range l.length).map (gD l) = l := by
  refine List.ext_getElem (by simp) fun i h1 h2 => ?_
  simp [gD, List.getD, List.getElem?_eq_getElem h2]
theorem nodup_snoc {s : List Nat} {i : Nat} (h : s.Nodup) (hi : ¬ i ∈ s) : (s ++ [i]).Nodup := by
  rw [List.nodup_append]
  exact ⟨h, by simp, fun a ha b hb e => by simp at hb; subst hb; subst e; exact hi ha⟩
/- Trees of little weight. -/
mutual
def okU : TUnit → Prop
  | ⟨_, _, _, _, _, h, w, ks⟩ => h.length ≤ 300 ∧ w.length ≤ 300 ∧ ks.length ≤ 60 ∧ okUs ks
def okUs : List TUnit → Prop
  | [] => True
  | k :: r => okU k ∧ okUs r
end
theorem okUs_iff : ∀ {l : List TUnit}, okUs l ↔ ∀ u, u ∈ l → okU u
  | [] => by rw [okUs]; simp
  | k :: r => by rw [okUs, okUs_iff]; simp
theorem okU_iff {u : TUnit} : okU u ↔ u.head.length ≤ 300 ∧ u.words.length ≤ 300 ∧ u.kids.length ≤ 60 ∧ ∀ k, k ∈ u.kids → okU k := by
  obtain ⟨a, b, c, d, e, h, w, ks⟩ := u
  rw [okU, okUs_iff]; exact Iff.rfl
theorem look_getC (m : List (Int × Int)) (k : Int) : lookupE (some (.int .i64 0)) false (findEnt false 1 [(0, 1)] (.int .i64 k) (entsI encInt m 0) 0) = some (.int .i64 (getC k m)) := by
  rw [look_entsI]
  unfold getC
  cases getI k m <;> rfl
section
variable {u w' : TUnit} {ws : List PWord} {w : PWord} {r : List PWord} {ks : List TUnit} {m x : List (Int × Int)} {c B : Int}
theorem tally_start (hm : ∀ k, 0 ≤ getC k m ∧ getC k m + Int.ofNat (wordsOf u ++ allWs u.kids).length ≤ B) :
    tally (wordsOf u) m = tally (wordsOf u) m ∧ ∀ k, 0 ≤ getC k m ∧ getC k m + (Int.ofNat (wordsOf u).length + Int.ofNat (allWs u.kids).length) ≤ B :=
  ⟨rfl, fun k => ⟨(hm k).1, by have := (hm k).2; simp only [List.length_append, Int.ofNat_eq_natCast] at *; omega⟩⟩
theorem tally_step (h : tally ws m = tally (w :: r) x ∧ ∀ k, 0 ≤ getC k x ∧ getC k x + (Int.ofNat (w :: r).length + c) ≤ B) :
    tally ws m = tally r (setI w.act (getC w.act x + 1) x) ∧ ∀ k, 0 ≤ getC k (setI w.act (getC w.act x + 1) x) ∧ getC k (setI w.act (getC w.act x + 1) x) + (Int.ofNat r.length + c) ≤ B :=
  ⟨h.1, fun k => by
    have h1 := h.2 k
    have h2 := h.2 w.act
    rw [getC_set]
    simp only [List.length_cons, Int.ofNat_eq_natCast] at *
    split
    · omega
    · omega⟩
theorem tally_q {ks : List PWord} (h : tally ws m = tally (w :: r) x ∧ ∀ k, 0 ≤ getC k x ∧ getC k x + (Int.ofNat (w :: r).length + Int.ofNat ks.length) ≤ 2 ^ 50) : 0 ≤ getC w.act x ∧ getC w.act x < 2 ^ 51 := by
  have := h.2 w.act
  simp only [Int.ofNat_eq_natCast] at *; omega
theorem tally_mid (h : tally (wordsOf u) m = tally [] x ∧ ∀ k, 0 ≤ getC k x ∧ getC k x + (Int.ofNat ([] : List PWord).length + Int.ofNat (allWs u.kids).length) ≤ B) :
    tally (allW u) m = tally (allWs u.kids) x ∧ ∀ k, 0 ≤ getC k x ∧ getC k x + Int.ofNat (allWs u.kids).length ≤ B :=
  ⟨by rw [allW_eq, tally_append, h.1]; rfl, fun k => ⟨(h.2 k).1, by have := (h.2 k).2; simp only [List.length_nil, Int.ofNat_eq_natCast] at *; omega⟩⟩
theorem tally_pre (h : tally (allW u) m = tally (allWs (w' :: ks)) x ∧ ∀ k, 0 ≤ getC k x ∧ getC k x + Int.ofNat (allWs (w' :: ks)).length ≤ B) : ∀ k, 0 ≤ getC k x ∧ getC k x + Int.ofNat (allW w').length ≤ B := fun k => by
  have := h.2 k
  rw [allWs_cons] at this
  simp only [List.length_append, Int.ofNat_eq_natCast] at *; omega
theorem tally_kid (h : tally (allW u) m = tally (allWs (w' :: ks)) x ∧ ∀ k, 0 ≤ getC k x ∧ getC k x + Int.ofNat (allWs (w' :: ks)).length ≤ B) :
    tally (allW u) m = tally (allWs ks) (tally (allW w') x) ∧ ∀ k, 0 ≤ getC k (tally (allW w') x) ∧ getC k (tally (allW w') x) + Int.ofNat (allWs ks).length ≤ B :=
  ⟨by rw [h.1, allWs_cons, tally_append], fun k => by
    have h1 := h.2 k
    have h2 := cnt_le k (allW w')
    rw [getC_tally]
    rw [allWs_cons] at h1
    simp only [List.length_append, Int.ofNat_eq_natCast] at *; omega⟩
end

/-- A slice without contents is nil or not. -/
theorem VRel.ls0 {pl : Pl} {M : Mem} {x : Value} (h : VRel pl M (.ls []) x) : VRel pl M .nils x ∨ VRel pl M (.ps [] false) x := by
  cases h with
  | lsn => exact .inl .nils
  | lsp h _ => exact .inr h
theorem VRel.agg0 {pl : Pl} {M : Mem} {pre post : List AV} {x : Value} (h : VRel pl M (.agg (pre ++ .ls [] :: post)) x) : VRel pl M (.agg (pre ++ .nils :: post)) x ∨ VRel pl M (.agg (pre ++ .ps [] false :: post)) x := by
  have h' := h
  cases h' with
  | agg h1 h2 h3 =>
    rcases (h3 pre.length (.ls []) (by simp)).ls0 with k | k
    · left
      refine .agg (by simpa using h1) (fun y hy => ?_) fun j y hj => ?_
      · rcases List.mem_append.1 hy with hy | hy
        · exact h2 y (List.mem_append_left _ hy)
        · rcases List.mem_cons.1 hy with rfl | hy
          · rfl
          · exact h2 y (List.mem_append_right _ (List.mem_cons_of_mem _ hy))
      · by_cases e : j = pre.length
        · subst e; simp at hj; subst hj; exact k
        · refine h3 j y ?_
          by_cases e2 : j < pre.length
          · rwa [List.getElem?_append_left e2] at hj ⊢
          · rw [List.getElem?_append_right (by omega)] at hj ⊢
            obtain ⟨m, hm⟩ : ∃ m, j - pre.length = m + 1 := ⟨j - pre.length - 1, by omega⟩
            rw [hm] at hj ⊢
            simpa using hj
    · right
      refine .agg (by simpa using h1) (fun y hy => ?_) fun j y hj => ?_
      · rcases List.mem_append.1 hy with hy | hy
        · exact h2 y (List.mem_append_left _ hy)
        · rcases List.mem_cons.1 hy with rfl | hy
          · rfl
          · exact h2 y (List.mem_append_right _ (List.mem_cons_of_mem _ hy))
      · by_cases e : j = pre.length
        · subst e; simp at hj; subst hj; exact k
        · refine h3 j y ?_
          by_cases e2 : j < pre.length
          · rwa [List.getElem?_append_left e2] at hj ⊢
          · rw [List.getElem?_append_right (by omega)] at hj ⊢
            obtain ⟨m, hm⟩ : ∃ m, j - pre.length = m + 1 := ⟨j - pre.length - 1, by omega⟩
            rw [hm] at hj ⊢
            simpa using hj
/-- Arguments, case by case. -/
theorem HCall.either {P : Program} {G : Env} {f : FuncId} {a b c : List AV} {h : AHeap} {Ψ : AV → AHeap → Prop} (hs : ∀ pl M vs, VRels pl M c vs → VRels pl M a vs ∨ VRels pl M b vs) (h1 : HCall P G f a h Ψ) (h2 : HCall P G f b h Ψ) : HCall P G f c h Ψ :=
  fun pl M w vs hg hr hv => (hs pl M vs hv).elim (h1 pl M w vs hg hr) (h2 pl M w vs hg hr)
theorem VRels.first {pl : Pl} {M : Mem} {x y z : AV} {r : List AV} {vs : Array Value} (h : VRels pl M (z :: r) vs) (hs : ∀ v, VRel pl M z v → VRel pl M x v ∨ VRel pl M y v) : VRels pl M (x :: r) vs ∨ VRels pl M (y :: r) vs := by
  obtain ⟨h1, h2⟩ := h
  have lift : ∀ u, VRel pl M u (vs.getD 0 undef) → VRels pl M (u :: r) vs := fun u hu => ⟨h1, fun j y hj => by
    cases j with
    | zero => simp at hj; subst hj; exact hu
    | succ j => exact h2 (j + 1) y (by simpa using hj)⟩
  exact (hs _ (h2 0 z rfl)).imp (lift x) (lift y)
/-- A function of a structure with a slice without contents: nil, and not nil. -/
theorem HPure.agg0 {P : Program} {G : Env} {f : FuncId} {pre post r : List AV} {v : AV} (h1 : HPure P G f (.agg (pre ++ .nils :: post) :: r) v) (h2 : HPure P G f (.agg (pre ++ .ps [] false :: post) :: r) v) : HPure P G f (.agg (pre ++ .ls [] :: post) :: r) v :=
  fun h => HCall.either (fun _ _ _ hv => VRels.first hv fun _ hv => hv.agg0) (h1 h) (h2 h)

end Go.Ev

/- Counts by act, out of a map or one after the other. -/
namespace Go.Ev
open Go

theorem small_le {n b m : Nat} (h1 : n ≤ m) (h2 : m ≤ 2 ^ 40) (h3 : m * b ≤ 2 ^ 40) : small n b = true := by
  unfold small
  have h4 : n * b ≤ m * b := Nat.mul_le_mul_right b h1
  simp only [Bool.and_eq_true]
  exact ⟨Nat.ble_eq_true_of_le (Nat.le_trans h1 h2), Nat.ble_eq_true_of_le (Nat.le_trans h4 h3)⟩

def pairCmp (p q : PPair) : Int := bif ltI p.a q.a then -1 else 1
theorem pairCmp_lt (p q : PPair) : decide (pairCmp p q < 0) = ltI p.a q.a := by
  unfold pairCmp
  cases ltI p.a q.a <;> rfl

/-- The pairs that a range over the map has laid down, sorted. -/
theorem shares_out {ws : List PWord} {M : List (Int × Int)} {l' out : List PPair} {seen : List Nat} (hM : tally ws [] = M) (h1 : l'.Perm out) (h2 : l'.Pairwise fun x y => x.a ≤ y.a)
    (h3 : out = seen.map fun i => pairOf (gD M i)) (hn : seen.Nodup) (hb : ∀ i, i ∈ seen → i < M.length) (hd : ∀ i, i < M.length → i ∈ seen) : l' = sharesL ws := by
  subst hM
  refine shares_perm h1 ?_ h2
  have h4 := (all_perm hn hb hd).map fun i => pairOf (gD (tally ws []) i)
  rw [h3]
  refine h4.trans (.of_eq ?_)
  have := congrArg (List.map pairOf) (range_map (tally ws []))
  rw [List.map_map] at this
  exact this
theorem shares_none {ws : List PWord} {M : List (Int × Int)} (hM : tally ws [] = M) (hd : ∀ i, i < M.length → i ∈ ([] : List Nat)) : sharesL ws = [] := by
  have e : M = [] := by
    cases M with
    | nil => rfl
    | cons x r => exact absurd (hd 0 (Nat.zero_lt_succ _)) (by simp)
  unfold sharesL
  rw [hM, e]
  simp
theorem setI_lenB (j v : Int) (m : List (Int × Int)) : (setI j v m).length ≤ m.length + 1 := by
  have := congrArg List.length (setI_keys j v m)
  rw [List.length_map] at this
  rw [this]
  split <;> simp
theorem tally_len0 : ∀ (ws : List PWord) (m : List (Int × Int)), (tally ws m).length ≤ m.length + ws.length
  | [], _ => Nat.le_refl _
  | w :: r, m => by
    have h1 := tally_len0 r (incr m w)
    have h2 : (incr m w).length ≤ m.length + 1 := setI_lenB ..
    rw [tally_cons]
    simp only [List.length_cons]; omega
theorem tally_len {ws : List PWord} {n : Nat} (h : ws.length ≤ n) : (tally ws []).length ≤ n := by
  have := tally_len0 ws []
  simp only [List.length_nil] at this; omega
theorem seen_len {seen : List Nat} {i n : Nat} (hn : seen.Nodup) (hb : ∀ i, i ∈ seen → i < n) (hi : i < n) (hs : ¬ i ∈ seen) : seen.length < n := by
  have := nodup_bound n (seen ++ [i]) (nodup_snoc hn hs) (fun j hj => by
    rcases List.mem_append.1 hj with h | h
    · exact hb j h
    · simp at h; omega)
  simp at this
  omega

def putZ (d : Int) : List Int → List Int
  | [] => [d]
  | x :: r => bif ltI x d then x :: putZ d r else bif eqI x d then x :: r else d :: x :: r
theorem putZ_len (d : Int) : ∀ (l : List Int), (putZ d l).length ≤ l.length + 1
  | [] => Nat.le_refl _
  | x :: r => by
    unfold putZ
    have := putZ_len d r
    cases ltI x d <;> cases eqI x d <;> simp only [cond_true, cond_false, List.length_cons] <;> omega
theorem putZ_mem (d k : Int) : ∀ (l : List Int), k ∈ putZ d l ↔ k = d ∨ k ∈ l
  | [] => by simp [putZ]
  | x :: r => by
    unfold putZ
    cases h1 : ltI x d
    · cases h2 : eqI x d
      · simp
      · have := eqI_t h2
        subst this
        simp
    · simp only [cond_true, List.mem_cons, putZ_mem d k r]
      constructor
      · rintro (h | h | h) <;> simp [h]
      · rintro (h | h | h) <;> simp [h]
theorem putZ_rise (d : Int) : ∀ {l : List Int}, l.Pairwise (· < ·) → (putZ d l).Pairwise (· < ·)
  | [], _ => by simp [putZ]
  | x :: r, h => by
    unfold putZ
    cases h1 : ltI x d
    · cases h2 : eqI x d
      · have a1 := ltI_false h1
        have a2 := eqI_f h2
        simp only [cond_false]
        refine List.pairwise_cons.2 ⟨fun y hy => ?_, h⟩
        rcases List.mem_cons.1 hy with rfl | hy
        · omega
        · have := (List.pairwise_cons.1 h).1 y hy; omega
      · simpa using h
    · simp only [cond_true]
      obtain ⟨q1, q2⟩ := List.pairwise_cons.1 h
      refine List.pairwise_cons.2 ⟨fun y hy => ?_, putZ_rise d q2⟩
      rcases (putZ_mem d y r).1 hy with rfl | hy
      · exact ltI_true h1
      · exact q1 y hy
theorem gD_cons0 {α : Type} [Inhabited α] (x : α) (r : List α) : gD (x :: r) 0 = x := rfl
theorem gD_consS {α : Type} [Inhabited α] (x : α) (r : List α) (i : Nat) : gD (x :: r) (i + 1) = gD r i := rfl
theorem putZ_new {d : Int} : ∀ {l : List Int} {i : Nat}, (∀ j, j < i → gD l j < d) → i ≤ l.length → (i < l.length → d < gD l i) → putZ d l = l.take i ++ d :: l.drop i
  | [], i, _, hi, _ => by
    have : i = 0 := by simpa using hi
    subst this; rfl
  | x :: r, 0, _, _, h => by
    have h := h (Nat.zero_lt_succ _)
    rw [gD_cons0] at h
    unfold putZ
    rw [ltI_f (by omega), show eqI x d = false from by rw [eqI_iff]; exact decide_eq_false (by omega)]
    rfl
  | x :: r, i + 1, hj, hi, h => by
    have h0 := hj 0 (Nat.zero_lt_succ _)
    rw [gD_cons0] at h0
    unfold putZ
    rw [ltI_t h0, putZ_new (l := r) (i := i) (fun j q => by simpa [gD_consS] using hj (j + 1) (by omega)) (by simpa using hi) (fun q => by simpa [gD_consS] using h (by simpa using q))]
    rfl
theorem putZ_same {d : Int} : ∀ {l : List Int} {i : Nat}, (∀ j, j < i → gD l j < d) → i < l.length → gD l i = d → putZ d l = l
  | [], i, _, hi, _ => absurd hi (Nat.not_lt_zero _)
  | x :: r, 0, _, _, h => by
    rw [gD_cons0] at h
    unfold putZ
    rw [ltI_f (by omega), show eqI x d = true from by rw [eqI_iff]; exact decide_eq_true h]
    rfl
  | x :: r, i + 1, hj, hi, h => by
    have h0 := hj 0 (Nat.zero_lt_succ _)
    rw [gD_cons0] at h0
    unfold putZ
    rw [ltI_t h0, putZ_same (l := r) (i := i) (fun j q => by simpa [gD_consS] using hj (j + 1) (by omega)) (by simpa using hi) (by simpa [gD_consS] using h)]
    rfl
theorem below_step {l : List Int} {i : Nat} {d : Int} (h : ∀ j, j < i → gD l j < d) (h1 : gD l i < d) : ∀ j, j < i + 1 → gD l j < d := fun j hj => by
  rcases Nat.lt_or_ge j i with q | q
  · exact h j q
  · have : j = i := by omega
    subst this; exact h1

def actsL (ws : List PWord) (l : List Int) : List Int := ws.foldl (fun l w => putZ w.act l) l
theorem actsL_cons (w : PWord) (ws : List PWord) (l : List Int) : actsL (w :: ws) l = actsL ws (putZ w.act l) := rfl
theorem actsL_rise : ∀ (ws : List PWord) {l : List Int}, l.Pairwise (· < ·) → (actsL ws l).Pairwise (· < ·)
  | [], _, h => h
  | w :: r, _, h => actsL_rise r (putZ_rise w.act h)
theorem cnt_cons (k : Int) (w : PWord) (r : List PWord) : cnt k (w :: r) = (bif eqI w.act k then 1 else 0) + cnt k r := by
  rw [cnt]; cases eqI w.act k <;> rfl
theorem actsL_mem (k : Int) : ∀ (ws : List PWord) (l : List Int), k ∈ actsL ws l ↔ k ∈ l ∨ 0 < cnt k ws
  | [], l => by simp [actsL, cnt]
  | w :: r, l => by
    rw [actsL_cons, actsL_mem k r, putZ_mem, cnt_cons]
    have h0 := (cnt_le k r).1
    cases h : eqI w.act k
    · have := eqI_f h
      simp only [cond_false, Int.zero_add]
      constructor
      · rintro ((h | h) | h)
        · exact absurd h.symm this
        · exact .inl h
        · exact .inr h
      · rintro (h | h)
        · exact .inl (.inr h)
        · exact .inr h
    · have := eqI_t h
      simp only [cond_true]
      exact ⟨fun _ => .inr (by omega), fun _ => .inl (.inl this.symm)⟩
def shareL (ws : List PWord) : List PPair := (actsL ws []).map fun k => ⟨k, cnt k ws⟩
theorem share_ok (ws : List PWord) : shareL ws = sharesL ws := by
  refine shares_eq ?_ fun p => ?_
  · unfold shareL Rise
    exact List.pairwise_map.2 (actsL_rise ws List.Pairwise.nil)
  · unfold shareL
    rw [List.mem_map]
    constructor
    · rintro ⟨k, h1, rfl⟩
      exact ⟨rfl, by simpa using (actsL_mem k ws []).1 h1⟩
    · rintro ⟨h1, h2⟩
      refine ⟨p.a, (actsL_mem p.a ws []).2 (.inr (by omega)), ?_⟩
      obtain ⟨a, b⟩ := p
      simp only at h1 ⊢
      rw [h1]
theorem actsL_len : ∀ (ws : List PWord) (l : List Int), (actsL ws l).length ≤ l.length + ws.length
  | [], l => by simp [actsL]
  | w :: r, l => by
    rw [actsL_cons]
    have h1 := actsL_len r (putZ w.act l)
    have h2 := putZ_len w.act l
    simp only [List.length_cons]; omega
end Go.Ev

/- The way to a unit of a tree. -/
namespace Go.Ev
open Go
def encId (a i n : Int) : AV := .agg [.int .i64 a, .int .i64 i, .int .i64 n]
def idIs (a i n : Int) (u : TUnit) : Bool := eqI u.act a && (eqI u.item i && eqI u.n n)
theorem idIs_eq (a i n : Int) (u : TUnit) : idIs a i n u = decide (u.act = a ∧ u.item = i ∧ u.n = n) := by
  unfold idIs; rw [eqI_iff, eqI_iff, eqI_iff]
  by_cases h1 : u.act = a <;> by_cases h2 : u.item = i <;> by_cases h3 : u.n = n <;> simp [h1, h2, h3]
mutual
def wayU (a i n : Int) : TUnit → List TUnit
  | ⟨x1, x2, x3, x4, x5, x6, x7, ks⟩ => bif idIs a i n ⟨x1, x2, x3, x4, x5, x6, x7, ks⟩ then [⟨x1, x2, x3, x4, x5, x6, x7, ks⟩] else match waysU a i n ks with
    | [] => []
    | y :: t => ⟨x1, x2, x3, x4, x5, x6, x7, ks⟩ :: y :: t
def waysU (a i n : Int) : List TUnit → List TUnit
  | [] => []
  | k :: r => match wayU a i n k with
    | [] => waysU a i n r
    | y :: t => y :: t
end
mutual
def findU (a i n : Int) : TUnit → Option TUnit
  | ⟨x1, x2, x3, x4, x5, x6, x7, ks⟩ => bif idIs a i n ⟨x1, x2, x3, x4, x5, x6, x7, ks⟩ then some ⟨x1, x2, x3, x4, x5, x6, x7, ks⟩ else findUs a i n ks
def findUs (a i n : Int) : List TUnit → Option TUnit
  | [] => none
  | k :: r => match findU a i n k with
    | some x => some x
    | none => findUs a i n r
end
section
variable {a i n : Int} {u w : TUnit} {r : List TUnit}
theorem wayU_eq (u : TUnit) : wayU a i n u = bif idIs a i n u then [u] else match waysU a i n u.kids with | [] => [] | y :: t => u :: y :: t := by
  obtain ⟨x1, x2, x3, x4, x5, x6, x7, ks⟩ := u
  rw [wayU]; rfl
theorem waysU_nil : waysU a i n [] = [] := by rw [waysU]
theorem waysU_cons (k : TUnit) (r : List TUnit) : waysU a i n (k :: r) = match wayU a i n k with | [] => waysU a i n r | y :: t => y :: t := by rw [waysU]
theorem findU_eq (u : TUnit) : findU a i n u = bif idIs a i n u then some u else findUs a i n u.kids := by
  obtain ⟨x1, x2, x3, x4, x5, x6, x7, ks⟩ := u
  rw [findU]; rfl
theorem findUs_nil : findUs a i n [] = none := by rw [findUs]
theorem findUs_cons (k : TUnit) (r : List TUnit) : findUs a i n (k :: r) = match findU a i n k with | some x => some x | none => findUs a i n r := by rw [findUs]
/-- Is it there? -/
def hasU (a i n : Int) (u : TUnit) : Bool := !(wayU a i n u).isEmpty
theorem hasU_f (h : hasU a i n u = false) : wayU a i n u = [] := by
  unfold hasU at h
  cases e : wayU a i n u with
  | nil => rfl
  | cons x r => rw [e] at h; cases h
theorem hasU_t (h : hasU a i n u = true) : ∃ y t, wayU a i n u = y :: t := by
  unfold hasU at h
  cases e : wayU a i n u with
  | nil => rw [e] at h; cases h
  | cons x r => exact ⟨x, r, rfl⟩
theorem hasU_ne (h : hasU a i n u = true) : wayU a i n u ≠ [] := by obtain ⟨y, t, e⟩ := hasU_t h; rw [e]; exact List.cons_ne_nil _ _
theorem way_hit (h : idIs a i n u = true) : wayU a i n u = [u] := by rw [wayU_eq, h]; rfl
theorem has_hit (h : idIs a i n u = true) : hasU a i n u = true := by unfold hasU; rw [way_hit h]; rfl
theorem ways_skip (h : hasU a i n w = false) : waysU a i n (w :: r) = waysU a i n r := by rw [waysU_cons, hasU_f h]
theorem ways_hit (h : hasU a i n w = true) : waysU a i n (w :: r) = wayU a i n w := by
  obtain ⟨y, t, e⟩ := hasU_t h
  rw [waysU_cons, e]
theorem way_miss (h : idIs a i n u = false) (h2 : waysU a i n u.kids = waysU a i n []) : wayU a i n u = [] := by rw [wayU_eq, h, h2, waysU_nil]; rfl
theorem has_miss (h : idIs a i n u = false) (h2 : waysU a i n u.kids = waysU a i n []) : hasU a i n u = false := by unfold hasU; rw [way_miss h h2]; rfl
theorem way_via (h : idIs a i n u = false) (h2 : waysU a i n u.kids = waysU a i n (w :: r)) (h3 : hasU a i n w = true) : wayU a i n u = u :: wayU a i n w := by
  rw [wayU_eq, h, h2, ways_hit h3]
  obtain ⟨y, t, e⟩ := hasU_t h3
  rw [e]; rfl
theorem has_via (h : idIs a i n u = false) (h2 : waysU a i n u.kids = waysU a i n (w :: r)) (h3 : hasU a i n w = true) : hasU a i n u = true := by unfold hasU; rw [way_via h h2 h3]; rfl
end
theorem gD_last {α : Type} [Inhabited α] (x : α) {l : List α} (h : l ≠ []) : gD (x :: l) ((x :: l).length - 1) = gD l (l.length - 1) := by
  cases l with
  | nil => exact absurd rfl h
  | cons y r => rfl
theorem way_find {a i n : Int} : ∀ (u : TUnit), (hasU a i n u = true → findU a i n u = some (gD (wayU a i n u) ((wayU a i n u).length - 1))) ∧ (hasU a i n u = false → findU a i n u = none) := by
  refine TUnit.ind fun u ih => ?_
  rw [findU_eq]
  cases h : idIs a i n u with
  | true =>
    rw [way_hit h]
    exact ⟨fun _ => rfl, fun h2 => by rw [has_hit h] at h2; cases h2⟩
  | false =>
    have key : ∀ (r : List TUnit), (∀ k, k ∈ r → k ∈ u.kids) → (waysU a i n r ≠ [] → findUs a i n r = some (gD (waysU a i n r) ((waysU a i n r).length - 1))) ∧ (waysU a i n r = [] → findUs a i n r = none) := by
      intro r
      induction r with
      | nil => intro _; rw [waysU_nil, findUs_nil]; exact ⟨fun h => absurd rfl h, fun _ => rfl⟩
      | cons k r ihr =>
        intro hm
        have ik := ih k (hm k (List.mem_cons_self ..))
        rw [findUs_cons]
        cases hk : hasU a i n k with
        | true =>
          rw [ways_hit hk, (ik.1 hk)]
          exact ⟨fun _ => rfl, fun h => absurd h (hasU_ne hk)⟩
        | false =>
          rw [ways_skip hk, (ik.2 hk)]
          exact ihr fun x hx => hm x (List.mem_cons_of_mem _ hx)
    have k2 := key u.kids fun _ h => h
    unfold hasU
    rw [wayU_eq, h]
    simp only [cond_false]
    cases hw : waysU a i n u.kids with
    | nil =>
      refine ⟨(fun h => by cases h), fun _ => k2.2 hw⟩
    | cons y t =>
      refine ⟨fun _ => ?_, fun h => by cases h⟩
      rw [k2.1 (by rw [hw]; exact List.cons_ne_nil _ _), hw]
      rfl
theorem find_ok {a i n : Int} : ∀ (u : TUnit), okU u → ∀ x, findU a i n u = some x → okU x := by
  refine TUnit.ind fun u ih hu x hx => ?_
  rw [findU_eq] at hx
  cases h : idIs a i n u with
  | true => rw [h] at hx; cases hx; exact hu
  | false =>
    rw [h] at hx
    have hk := (okU_iff.1 hu).2.2.2
    have key : ∀ (r : List TUnit), (∀ k, k ∈ r → k ∈ u.kids) → findUs a i n r = some x → okU x := by
      intro r
      induction r with
      | nil => intro _ h; rw [findUs_nil] at h; cases h
      | cons k r ihr =>
        intro hm h
        rw [findUs_cons] at h
        cases hf : findU a i n k with
        | some y =>
          rw [hf] at h
          exact ih k (hm k (List.mem_cons_self ..)) (hk _ (hm k (List.mem_cons_self ..))) x (by rw [hf]; exact h)
        | none =>
          rw [hf] at h
          exact ihr (fun z hz => hm z (List.mem_cons_of_mem _ hz)) h
    exact key u.kids (fun _ h => h) hx
mutual
def nU : TUnit → Nat
  | ⟨_, _, _, _, _, _, _, ks⟩ => 1 + nUs ks
def nUs : List TUnit → Nat
  | [] => 0
  | k :: r => nU k + nUs r
end
theorem nU_eq (u : TUnit) : nU u = 1 + nUs u.kids := by
  obtain ⟨x1, x2, x3, x4, x5, x6, x7, ks⟩ := u
  rw [nU]; rfl
theorem nUs_mem : ∀ {l : List TUnit} {k : TUnit}, k ∈ l → nU k ≤ nUs l
  | [], _, h => absurd h (by simp)
  | x :: r, k, h => by
    rw [nUs]
    rcases List.mem_cons.1 h with rfl | h
    · omega
    · have := nUs_mem h; omega
theorem nU_kid {u k : TUnit} (h : k ∈ u.kids) : nU k < nU u := by
  rw [nU_eq u]
  have := nUs_mem h; omega
theorem way_len {a i n : Int} : ∀ (u : TUnit), (wayU a i n u).length ≤ nU u := by
  refine TUnit.ind fun u ih => ?_
  have key : ∀ (r : List TUnit), (∀ k, k ∈ r → k ∈ u.kids) → (waysU a i n r).length ≤ nUs r := by
    intro r
    induction r with
    | nil => intro _; rw [waysU_nil]; exact Nat.zero_le _
    | cons k r ihr =>
      intro hm
      have h1 := ih k (hm k (List.mem_cons_self ..))
      have h2 := ihr fun x hx => hm x (List.mem_cons_of_mem _ hx)
      rw [waysU_cons, nUs]
      cases hw : wayU a i n k with
      | nil => simp only; omega
      | cons y t => rw [hw] at h1; simp only; omega
  have h := key u.kids fun _ h => h
  rw [wayU_eq, nU_eq]
  cases idIs a i n u with
  | true => simp
  | false =>
    simp only [cond_false]
    cases hw : waysU a i n u.kids with
    | nil => simp
    | cons y t => rw [hw] at h; simp only [List.length_cons] at *; omega
theorem allWs_len : ∀ {l : List TUnit}, (∀ k, k ∈ l → (allW k).length ≤ 600 * nU k) → (allWs l).length ≤ 600 * nUs l
  | [], _ => by rw [allWs_nil]; exact Nat.zero_le _
  | k :: r, h => by
    have h1 := h k (List.mem_cons_self ..)
    have h2 := allWs_len fun x hx => h x (List.mem_cons_of_mem _ hx)
    rw [allWs_cons, nUs, List.length_append]; omega
theorem allW_len : ∀ (u : TUnit), okU u → (allW u).length ≤ 600 * nU u := by
  refine TUnit.ind fun u ih hu => ?_
  obtain ⟨h1, h2, _, h4⟩ := okU_iff.1 hu
  have := allWs_len (l := u.kids) fun k hk => ih k hk (h4 k hk)
  rw [allW_eq, nU_eq, List.length_append]
  unfold wordsOf
  rw [List.length_append]; omega
theorem words_len {u : TUnit} (hu : okU u) : (wordsOf u).length ≤ 600 := by
  obtain ⟨h1, h2, _, _⟩ := okU_iff.1 hu
  unfold wordsOf
  rw [List.length_append]; omega
/-- Who wrote the words of a unit. -/
def refOf (w : PWord) : PRef := ⟨w.act, w.item⟩
def authorsL (a i n : Int) (u : TUnit) : List PRef := match findU a i n u with | some x => (wordsOf x).map refOf | none => []
end Go.Ev

/- 'Says less', decided: deep in slices; contracts at arguments that say more; contracts as hooks of a closed run. -/
namespace Go.Ev
open Go

/-- Cell by cell. -/
def LeC (u v : AV) : Prop := (Sc v → Sc u) ∧ Les u.cells v.cells
theorem LeC.refl (v : AV) : LeC v v := ⟨id, Les.refl _⟩
theorem LeC.one {u v : AV} (hu : u.cells = [u]) (hv : v.cells = [v]) (hs : scalB u = true) (h : Le u v) : LeC u v :=
  ⟨fun _ y hy => by rw [hu] at hy; rw [List.mem_singleton.1 hy]; exact hs, by rw [hu, hv]; exact .cons h .nil⟩
inductive LesC : List AV → List AV → Prop
  | nil : LesC [] []
  | cons {u v : AV} {us vs : List AV} (h : LeC u v) (k : LesC us vs) : LesC (u :: us) (v :: vs)
theorem LesC.len {us vs : List AV} (h : LesC us vs) : us.length = vs.length := by
  induction h with
  | nil => rfl
  | cons _ _ ih => simp [ih]
theorem LesC.at_ {us vs : List AV} (h : LesC us vs) : ∀ (j : Nat) (u : AV), us[j]? = some u → ∃ v, vs[j]? = some v ∧ LeC u v := by
  induction h with
  | nil => intro j u h; simp at h
  | cons h k ih =>
    intro j u hj
    cases j with
    | zero => simp at hj; subst hj; exact ⟨_, rfl, h⟩
    | succ j => simpa using ih j u (by simpa using hj)
theorem Le.psC {xs ys : List AV} {t : Bool} (h : LesC xs ys) : Le (.ps xs false) (.ps ys t) := fun pl M v hv => by
  cases hv with
  | @ps _ _ a cap sz c hl ht hm hs hc =>
    rw [← h.len]
    refine .ps (sz := sz) (c := c) (by rw [h.len]; exact hl) (fun h => by cases h) (fun hx => ?_) (fun x hx => ?_) fun i x j y hx hy => ?_
    · have : ys ≠ [] := fun e => hx (List.eq_nil_of_length_eq_zero (by rw [h.len, e]; rfl))
      rw [h.len]; exact hm this
    · obtain ⟨i, hi⟩ := List.getElem?_of_mem hx
      obtain ⟨y, h1, h2, h3⟩ := h.at_ i x hi
      have := hs y (List.mem_of_getElem? h1)
      exact ⟨h3.len.trans this.1, h2 this.2⟩
    · obtain ⟨z, h1, _, h3⟩ := h.at_ i x hx
      obtain ⟨d, h4, h5⟩ := h3.at_ j y hy
      exact h5 _ _ _ (hc i z j d h1 h4)
theorem Le.lsC {xs ys : List AV} {t : Bool} (h : LesC xs ys) (h0 : AV.tops xs = 0) : Le (.ls xs) (.ps ys t) := fun pl M v hv => .lsp (Le.psC h pl M v hv) h0
theorem Le.llC {xs ys : List AV} (h : LesC xs ys) (h0 : AV.tops xs = 0) : Le (.ls xs) (.ls ys) := fun pl M v hv => by
  cases hv with
  | lsn => cases h; exact .lsn
  | lsp hv _ => exact .lsp (Le.psC h pl M v hv) h0
/-- A slice with contents is not nil. -/
theorem Le.pls {x : AV} {xs ys : List AV} (h : LesC (x :: xs) ys) : Le (.ps (x :: xs) false) (.ls ys) := fun pl M v hv => by
  cases hv with
  | lsn => cases h
  | lsp hv _ => exact Le.psC h pl M v hv

mutual
/-- Does 'u' say less than 'v', or the same? -/
def AV.leB : AV → AV → Bool
  | .ls xs, .nils => xs.isEmpty
  | .ls xs, .ps ys _ => AV.leBs xs ys && Nat.beq (AV.tops xs) 0
  | .ls xs, .ls ys => AV.leBs xs ys && Nat.beq (AV.tops xs) 0
  | .ps (x :: xs) false, .ls ys => AV.leBs (x :: xs) ys
  | .ps xs false, .ps ys _ => AV.leBs xs ys
  | .agg us, .agg vs => AV.leBs us vs && us.all scalB
  | u, v => AV.same u v
def AV.leBs : List AV → List AV → Bool
  | [], [] => true
  | a :: us, b :: vs => AV.leB a b && AV.leBs us vs
  | _, _ => false
end
theorem LeC.same {u v : AV} (h : AV.same u v = true) : Le u v ∧ LeC u v := by rw [AV.same_eq _ _ h]; exact ⟨Le.refl _, LeC.refl _⟩
mutual
theorem AV.leB_ok : ∀ (u v : AV), AV.leB u v = true → Le u v ∧ LeC u v := fun u v h => by
  unfold AV.leB at h
  split at h
  · rename_i xs
    have e : xs = [] := by simpa using h
    subst e
    exact ⟨Le.nils, LeC.one rfl rfl rfl Le.nils⟩
  · rename_i xs ys t
    have h := Bool.and_eq_true_iff.1 h
    have k := Le.lsC (t := t) (AV.leBs_ok xs ys h.1).2 (Nat.eq_of_beq_eq_true h.2)
    exact ⟨k, LeC.one rfl rfl rfl k⟩
  · rename_i xs ys
    have h := Bool.and_eq_true_iff.1 h
    have k := Le.llC (AV.leBs_ok xs ys h.1).2 (Nat.eq_of_beq_eq_true h.2)
    exact ⟨k, LeC.one rfl rfl rfl k⟩
  · rename_i x xs ys
    have k := Le.pls (AV.leBs_ok (x :: xs) ys h).2
    exact ⟨k, LeC.one rfl rfl rfl k⟩
  · rename_i xs ys t
    have k := Le.psC (t := t) (AV.leBs_ok xs ys h).2
    exact ⟨k, LeC.one rfl rfl rfl k⟩
  · rename_i us vs
    have h := Bool.and_eq_true_iff.1 h
    have k := AV.leBs_ok us vs h.1
    exact ⟨Le.aggB k.1 h.2, fun _ y hy => List.all_eq_true.1 h.2 y hy, k.1⟩
  · exact LeC.same h
theorem AV.leBs_ok : ∀ (us vs : List AV), AV.leBs us vs = true → Les us vs ∧ LesC us vs := fun us vs h => by
  unfold AV.leBs at h
  split at h
  · exact ⟨.nil, .nil⟩
  · rename_i a us b vs
    have h := Bool.and_eq_true_iff.1 h
    have h1 := AV.leB_ok a b h.1
    have h2 := AV.leBs_ok us vs h.2
    exact ⟨.cons h1.1 h2.1, .cons h1.2 h2.2⟩
  · cases h
end

section
variable {P : Program} {G : Env} {f : FuncId} {a b : List AV} {u v : AV}
/-- A contract at arguments that say more. -/
theorem HPure.args (h : HPure P G f a v) (hl : Les a b) : HPure P G f b v := fun hp pl M w vs hg hr hv => h hp pl M w vs hg hr (hv.le hl)
theorem HPure.argsB (h : HPure P G f a v) (hl : AV.leBs a b = true) : HPure P G f b v := h.args (AV.leBs_ok _ _ hl).1
theorem HPure.lessB (h : HPure P G f a v) (hl : AV.leB u v = true) : HPure P G f a u := h.less (AV.leB_ok _ _ hl).1
/-- '==' of structures, cell by cell. -/
theorem eqL_t {xs ys : List AV} {i t : Nat} {r : List (Nat × Nat)} {x y : AV} {c : Bool} (hx : nth xs i = some x) (hy : nth ys i = some y) (h : eqS t x y = some true) (k : eqL xs ys r = some c) : eqL xs ys ((i, t) :: r) = some c := by
  simp only [eqL, hx, hy, eqO, h, eqThen, k]
theorem eqL_c {xs ys : List AV} {i t : Nat} {r : List (Nat × Nat)} {x y : AV} {e c : Bool} (hx : nth xs i = some x) (hy : nth ys i = some y) (h : eqS t x y = some e) (k : eqL xs ys r = some c) : eqL xs ys ((i, t) :: r) = some (e && c) := by
  simp only [eqL, hx, hy, eqO, h]
  cases e with
  | true => exact k
  | false => rfl
theorem eqS_i (a : Int) : eqS 1 (.int .i64 a) (.int .i64 a) = some true := congrArg some (eqI_refl a)
theorem agg_eql {d : Option TypeDesc} {n : Nat} {l : List (Nat × Nat)} {xs ys : List AV} {c : Bool} {H : AHeap} (hn : (Nat.beq xs.length n && Nat.beq ys.length n) = true) (hl : eqL xs ys l = some c) :
    retV H (two (binR .eql d (some true) (some n) (some l)) (some (.agg xs)) (some (.agg ys))) = some (.val (.bool c) H) := by
  simp only [two, binR, eqR, hn, hl, orElseB, retV]
theorem agg_neq {d : Option TypeDesc} {n : Nat} {l : List (Nat × Nat)} {xs ys : List AV} {c : Bool} {H : AHeap} (hn : (Nat.beq xs.length n && Nat.beq ys.length n) = true) (hl : eqL xs ys l = some c) :
    retV H (two (binR .neq d (some true) (some n) (some l)) (some (.agg xs)) (some (.agg ys))) = some (.val (.bool (!c)) H) := by
  simp only [two, binR, eqR, hn, hl, orElseB, retV]
/-- Pure contracts as hooks: the function, the arguments, the outcome. -/
def hookL : List (FuncId × List AV × AV) → Hook
  | [], _, _, _ => none
  | x :: r, g, b, h => match Nat.beq g x.1 with
    | true => (match AV.leBs x.2.1 b with | true => some (x.2.2, h) | false => hookL r g b h)
    | false => hookL r g b h
theorem hookL_some : ∀ {L : List (FuncId × List AV × AV)} {g : FuncId} {h h1 : AHeap} {v1 : AV}, hookL L g b h = some (v1, h1) → ∃ x, x ∈ L ∧ g = x.1 ∧ AV.leBs x.2.1 b = true ∧ v1 = x.2.2 ∧ h1 = h
  | [], _, _, _, _, e => by simp [hookL] at e
  | x :: r, g, h, h1, v1, e => by
    unfold hookL at e
    have next : hookL r g b h = some (v1, h1) → ∃ y, y ∈ x :: r ∧ g = y.1 ∧ AV.leBs y.2.1 b = true ∧ v1 = y.2.2 ∧ h1 = h := fun e =>
      let ⟨y, k, q⟩ := hookL_some e
      ⟨y, List.mem_cons_of_mem _ k, q⟩
    cases hb : Nat.beq g x.1 with
    | false => simp only [hb] at e; exact next e
    | true =>
      simp only [hb] at e
      cases hl : AV.leBs x.2.1 b with
      | false => simp only [hl] at e; exact next e
      | true =>
        simp only [hl, Option.some.injEq, Prod.mk.injEq] at e
        exact ⟨x, List.mem_cons_self, Nat.eq_of_beq_eq_true hb, hl, e.1.symm, e.2.symm⟩
theorem hookL_ok {C : Cfg} {L : List (FuncId × List AV × AV)} (hC : C.hook = hookL L) (hL : ∀ x, x ∈ L → HPure C.P C.G x.1 x.2.1 x.2.2) : HookOK C := fun g b hp v1 h1 e pl M w vs hg hr hv => by
  rw [hC] at e
  obtain ⟨x, hx, rfl, hl, rfl, rfl⟩ := hookL_some e
  rcases hL x hx h1 pl M w vs hg hr (hv.le (AV.leBs_ok _ _ hl).1) with ⟨k1, k2⟩ | ⟨cv, w', v2, h2, k1, ⟨rfl, rfl⟩, k3⟩
  · refine .inl ⟨k1, fun cs => ?_⟩
    obtain ⟨en, w', fr, ⟨cv, v2, h2, e1, ⟨rfl, rfl⟩, k3⟩, r⟩ := k2 cs
    exact ⟨en, w', fr, ⟨cv, e1, k3⟩, r⟩
  · exact .inr ⟨cv, w', k1, k3⟩
/-- Is the outcome at least that? -/
def saysV (v : AV) : Option (AV × AHeap) → Bool
  | some (u, _) => AV.leB v u && Nat.beq u.top 0
  | none => false
/-- A closed call, wherever it is made. -/
theorem HPure.closed {C : Cfg} {k : Nat} (hG : GTop C.G) (ev : CallerOK C.P C.G (evFunc C k)) (ht : AV.tops a = 0) (h : saysV v (evFunc C k f a AHeap.none) = true) : HPure C.P C.G f a v := by
  cases hx : evFunc C k f a AHeap.none with
  | none => rw [hx] at h; cases h
  | some r =>
    obtain ⟨u, h1⟩ := r
    rw [hx] at h
    have h := Bool.and_eq_true_iff.1 h
    exact (HPure.of0 hG ht (Nat.eq_of_beq_eq_true h.2) ((HCall.of ev hx).mono fun v1 _ e => e.1)).lessB h.1
end
end Go.Ev
