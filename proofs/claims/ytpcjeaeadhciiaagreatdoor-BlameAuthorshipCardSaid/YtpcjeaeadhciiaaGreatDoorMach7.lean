/- An abstract machine for closed runs and for walks, proved sound against the model: part 7 of 8. No conditions. -/
import Derived.Test.YtpcjeaeadhciiaaGreatDoorMach6
import Derived.Shelf.SortM.Plain
import Derived.Shelf.SortM.SortNone
import Derived.Shelf.SlSortCmp.NoneTotal
import Derived.Shelf.SlicesG.CompactI
import Derived.Lib.QuietBelow
import GoSem.ClaimJoined
import Derived.Calls
import Derived.RunT
import Derived.Below
import Derived.Shelf.Strings.FuncGrows
import Derived.Laws.RangeAny

/- Maps whose keys are written by a function: finding, looking up, changing. -/
namespace Go.Ev
open Go

/-- Keys that are written by 'kenc' and compared by 'keq'. -/
structure KeyOf (K : Type) (ag : Bool) (sz : Nat) (lv : List (Nat × Nat)) (kenc : K → AV) (keq : K → K → Bool) : Prop where
  eq : ∀ a b, keyEq ag sz lv (kenc a) (kenc b) = some (keq a b)
  t : ∀ a b, keq a b = true → a = b
  refl : ∀ a, keq a a = true
  same : ∀ a, keySame (kenc a) (kenc a) = true
  top : ∀ a, (kenc a).top = 0

section
variable {K V : Type} {ag : Bool} {sz : Nat} {lv : List (Nat × Nat)} {kenc : K → AV} {keq : K → K → Bool} {f : V → AV}
noncomputable def entsG (kenc : K → AV) (f : V → AV) : List (K × V) → Nat → List AEnt
  | [], _ => []
  | (k, v) :: r, i => ⟨kenc k, f v, i⟩ :: entsG kenc f r (i + 1)
def getG (keq : K → K → Bool) (k : K) : List (K × V) → Option V
  | [] => none
  | (j, v) :: r => match keq k j with | true => some v | false => getG keq k r
def setG (keq : K → K → Bool) (k : K) (v : V) : List (K × V) → List (K × V)
  | [] => [(k, v)]
  | (j, u) :: r => match keq k j with | true => (j, v) :: r | false => (j, u) :: setG keq k v r
theorem find_entsG (hk : KeyOf K ag sz lv kenc keq) (k : K) : ∀ (l : List (K × V)) (i : Nat), findEnt ag sz lv (kenc k) (entsG kenc f l i) i = some (match getG keq k l with | none => none | some v => some (i + (l.takeWhile fun p => !(keq k p.1)).length, ⟨kenc k, f v, i + (l.takeWhile fun p => !(keq k p.1)).length⟩))
  | [], i => rfl
  | (j, v) :: r, i => by
    simp only [entsG, findEnt, hk.eq, getG]
    cases h : keq k j with
    | true =>
      have hj := hk.t _ _ h
      subst hj
      simp [findThen, List.takeWhile, h]
    | false =>
      simp only [findThen, find_entsG hk k r (i + 1), List.takeWhile, h, Bool.not_false]
      cases getG keq k r with
      | none => rfl
      | some u => simp only [List.length_cons]; rw [show ∀ d, i + 1 + d = i + (d + 1) from fun d => by omega]
theorem look_entsG (hk : KeyOf K ag sz lv kenc keq) (z : Option AV) (ok : Bool) (k : K) (l : List (K × V)) : lookupE z ok (findEnt ag sz lv (kenc k) (entsG kenc f l 0) 0) = match getG keq k l with | none => withOk ok z false | some v => withOk ok (some (f v)) true := by
  rw [find_entsG hk]
  cases getG keq k l with
  | none => rfl
  | some v => rfl
theorem entsG_append (l r : List (K × V)) : ∀ (i : Nat), entsG kenc f (l ++ r) i = entsG kenc f l i ++ entsG kenc f r (i + l.length) := by
  induction l with
  | nil => intro i; rfl
  | cons x l ih =>
    intro i
    obtain ⟨j, v⟩ := x
    simp only [List.cons_append, entsG, ih, List.length_cons, List.cons.injEq, true_and, List.append_cancel_left_eq]
    congr 1; omega
theorem setG_none {k : K} {v : V} : ∀ {l : List (K × V)}, getG keq k l = none → setG keq k v l = l ++ [(k, v)]
  | [], _ => rfl
  | (j, u) :: r, h => by
    simp only [getG] at h
    cases q : keq k j with
    | true => rw [q] at h; cases h
    | false => rw [q] at h; simp only [setG, q, List.cons_append, setG_none h]
theorem setG_len {k : K} {v u : V} : ∀ {l : List (K × V)}, getG keq k l = some u → (setG keq k v l).length = l.length
  | (j, w) :: r, h => by
    simp only [getG] at h
    cases q : keq k j with
    | true => simp only [setG, q, List.length_cons]
    | false => rw [q] at h; simp only [setG, q, List.length_cons, setG_len h]
theorem entsG_set (hk : KeyOf K ag sz lv kenc keq) {k : K} {v u : V} : ∀ {l : List (K × V)} (i : Nat), getG keq k l = some u →
    (entsG kenc f l i).set (l.takeWhile fun p => !(keq k p.1)).length ⟨kenc k, f v, i + (l.takeWhile fun p => !(keq k p.1)).length⟩ = entsG kenc f (setG keq k v l) i
  | (j, w) :: r, i, h => by
    simp only [getG] at h
    cases q : keq k j with
    | true => have hj := hk.t _ _ q; subst hj; simp [entsG, setG, List.takeWhile, q]
    | false =>
      rw [q] at h
      simp only [entsG, setG, List.takeWhile, q, Bool.not_false, List.length_cons, List.set_cons_succ, List.cons.injEq, true_and]
      rw [← entsG_set hk (i + 1) h]
      congr 2
      all_goals (first | rfl | omega)
theorem upd_entsG (hk : KeyOf K ag sz lv kenc keq) (k : K) (v : V) (l : List (K × V)) : updE (entsG kenc f l 0) l.length (kenc k) (f v) (findEnt ag sz lv (kenc k) (entsG kenc f l 0) 0) = some (entsG kenc f (setG keq k v l) 0, (setG keq k v l).length) := by
  rw [find_entsG hk]
  cases h : getG keq k l with
  | none =>
    simp only [updE, setG_none h, entsG_append, entsG, List.length_append, List.length_singleton, Nat.zero_add]
  | some u =>
    have := entsG_set (f := f) (v := v) hk 0 h
    simp only [Nat.zero_add] at this ⊢
    simp only [updE, hk.same, this, setG_len h]
theorem entsG_top (hk : KeyOf K ag sz lv kenc keq) (hf : ∀ v, (f v).top = 0) : ∀ (l : List (K × V)) (i : Nat), entTops (entsG kenc f l i) = 0
  | [], _ => rfl
  | (j, v) :: r, i => by simp only [entsG, entTops, hk.top, hf v, entsG_top hk hf r, mx00]

/-! A range over such a map. -/
variable [Inhabited K] [Inhabited V] {l : List (K × V)} {seen : List Nat}
theorem entsG_at : ∀ {l : List (K × V)} {n i : Nat}, i < l.length → (⟨kenc (gD l i).1, f (gD l i).2, n + i⟩ : AEnt) ∈ entsG kenc f l n
  | (k, v) :: r, n, 0, _ => by simp [entsG, gD]
  | (k, v) :: r, n, i + 1, h => by
    have := entsG_at (l := r) (n := n + 1) (i := i) (by simpa using h)
    have e : n + 1 + i = n + (i + 1) := by omega
    rw [e] at this
    simp only [entsG, List.mem_cons]
    exact .inr this
theorem entsG_mem {e : AEnt} : ∀ {l : List (K × V)} {n : Nat}, e ∈ entsG kenc f l n → ∃ i, i < l.length ∧ e = ⟨kenc (gD l i).1, f (gD l i).2, n + i⟩
  | [], _, h => by simp [entsG] at h
  | (k, v) :: r, n, h => by
    simp only [entsG, List.mem_cons] at h
    rcases h with h | h
    · exact ⟨0, by simp, by rw [h]; simp [gD]⟩
    · obtain ⟨i, h1, h2⟩ := entsG_mem h
      exact ⟨i + 1, by simpa using h1, by rw [h2, show n + 1 + i = n + (i + 1) from by omega]; rfl⟩
theorem entsG_next : l.length = l.length ∧ ∀ e, e ∈ entsG kenc f l 0 → e.born < l.length ∧ (e.born ∈ seen ∨ ∃ y, (y < l.length ∧ ¬ y ∈ seen) ∧ e.key = kenc (gD l y).1 ∧ e.val = f (gD l y).2 ∧ e.born = y) :=
  ⟨rfl, fun e h => by
    obtain ⟨i, h1, h2⟩ := entsG_mem h
    subst h2
    refine ⟨by simpa using h1, ?_⟩
    by_cases q : i ∈ seen
    · exact .inl (by simpa using q)
    · exact .inr ⟨i, ⟨h1, q⟩, rfl, rfl, by simp⟩⟩
theorem entsG_done (h : ∀ e, e ∈ entsG kenc f l 0 → e.born ∈ seen) : ∀ i, i < l.length → i ∈ seen := fun i hi => by
  have := h _ (entsG_at hi)
  simpa using this
theorem lastN_end : ∀ (s : List Nat) (i : Nat), lastN (s ++ [i]) = some i
  | [], _ => rfl
  | [_], _ => rfl
  | x :: y :: r, i => lastN_end (y :: r) i
theorem findBorn_entsG : ∀ {l : List (K × V)} {n i : Nat}, i < l.length → findBorn (n + i) (entsG kenc f l n) = some ⟨kenc (gD l i).1, f (gD l i).2, n + i⟩
  | (k, v) :: r, n, 0, _ => by simp [entsG, gD, findBorn]
  | (k, v) :: r, n, i + 1, h => by
    have e : Nat.beq n (n + (i + 1)) = false := by
      cases q : Nat.beq n (n + (i + 1)) with
      | false => rfl
      | true => have := Nat.eq_of_beq_eq_true q; omega
    simp only [entsG, findBorn, e]
    have := findBorn_entsG (l := r) (n := n + 1) (i := i) (by simpa using h)
    rw [show n + 1 + i = n + (i + 1) from by omega] at this
    rw [this]; rfl
theorem entsG_entry {s : List Nat} {i : Nat} (h : i < l.length) : l.length = l.length ∧ entV (bornO (entsG kenc f l 0) (lastN (s ++ [i]))) = some (.tuple [kenc (gD l i).1, f (gD l i).2]) :=
  ⟨rfl, by
    rw [lastN_end]
    have := findBorn_entsG (kenc := kenc) (f := f) (l := l) (n := 0) h
    rw [Nat.zero_add] at this
    simp only [bornO, this, entV]⟩
end
section
variable {V : Type} {f : V → AV} [Inhabited V] {l : List (Int × V)} {seen : List Nat}
omit [Inhabited V] in
theorem entsI_G : ∀ (l : List (Int × V)) (n : Nat), entsI f l n = entsG (.int .i64 ·) f l n
  | [], _ => rfl
  | (k, v) :: r, n => by simp only [entsI, entsG, entsI_G r]
theorem entsI_next : l.length = l.length ∧ ∀ e, e ∈ entsI f l 0 → e.born < l.length ∧ (e.born ∈ seen ∨ ∃ y, (y < l.length ∧ ¬ y ∈ seen) ∧ e.key = .int .i64 (gD l y).1 ∧ e.val = f (gD l y).2 ∧ e.born = y) := by
  rw [entsI_G]; exact entsG_next
theorem entsI_done (h : ∀ e, e ∈ entsI f l 0 → e.born ∈ seen) : ∀ i, i < l.length → i ∈ seen := by
  rw [entsI_G] at h; exact entsG_done h
theorem entsI_entry {s : List Nat} {i : Nat} (h : i < l.length) : l.length = l.length ∧ entV (bornO (entsI f l 0) (lastN (s ++ [i]))) = some (.tuple [.int .i64 (gD l i).1, f (gD l i).2]) := by
  rw [entsI_G]; exact entsG_entry h
end

end Go.Ev

/- The library's sorts as contracts: out of the kit's own statements over worlds. -/
namespace Go.Ev
open Go Go.Sort Go.Proofs

section
variable {P : Program} {G : Env} {pl : Pl} {M : Mem} {h : AHeap} {w w' : World}

/-- A row laid anew in its own block. -/
theorem Rep.rowNew (hr : Rep pl M h w) {id : Nat} {p : Place} {sz : Nat} {op : Bool} {ep : Nat} {xs xs' : List AV} {c c' : Array Value} {t : TypeId} (hp : pl id = some p) (hg : h.get id = some (.row sz op ep xs))
    (hb : w.heap[p.blk]? = some (.cells c t (0, 0))) (hw : w'.heap[p.blk]? = some (.cells c' t (0, 0))) (hcs : c'.size = c.size) (hlen : xs'.length = xs.length) (hel : ∀ x, x ∈ xs' → x.cells.length = sz ∧ Sc x)
    (hcell : ∀ i x j y, xs'[i]? = some x → x.cells[j]? = some y → VRel pl M y (c'.getD (i * sz + j) undef)) (hs : WSame w w') (hsz : w.heap.size ≤ w'.heap.size) (hk : ∀ b, b < w.heap.size → b ≠ p.blk → w'.heap[b]? = w.heap[b]?) :
    Rep pl M (h.put id (.row sz op ep xs')) w' ∧ Step h pl M w (h.put id (.row sz op ep xs')) pl M w' := by
  have ho := hr.obj id p _ hp hg
  rw [hb] at ho
  simp only [ObjRel] at ho
  obtain ⟨h1, h2, h3, h4, h5, h6, h7, h8⟩ := ho
  have e := upd_eq (pl := pl) hp
  have := Rep.change (p' := p) (o' := .row sz op ep xs') hr hp hg (.inl rfl) hs hsz hk (.inl rfl) (Array.getElem?_eq_some_iff.1 hw).1 (by
    rw [e, hw]
    simp only [ObjRel]
    refine ⟨h1, h2, by omega, by omega, trivial, h6, fun e => by rw [hcs, h7 e, hlen], ⟨?_, hel, fun i x j y q1 q2 => ?_⟩⟩
    · have := h8.fit; rw [hlen, hcs]; exact this
    · rw [Nat.zero_add]; exact hcell i x j y q1 q2)
  rwa [e] at this

variable {β : Type} [Inhabited β]

theorem grow_put_at {enc : β → Value} {blk off n : Nat} {d : Array β} {os : Array Obj} {c : Array Value} {t : TypeId} {fr : Nat × Nat} (hb : w.heap[blk]? = some (.cells c t fr)) :
    (grow (putRow enc (Sort.ahead w n) blk off d) os).heap[blk]? = some (.cells (putCells enc off d c) t fr) := by
  have hlt := (Array.getElem?_eq_some_iff.1 hb).1
  simp only [grow, putRow, mapBlock, Sort.ahead]
  rw [Array.getElem?_append_left (by simpa using hlt), Array.getElem?_modify, hb]
  simp [onCells]

theorem grow_put_other {enc : β → Value} {blk off n : Nat} {d : Array β} {os : Array Obj} {b : Nat} (hb : b < w.heap.size) (hne : b ≠ blk) :
    (grow (putRow enc (Sort.ahead w n) blk off d) os).heap[b]? = w.heap[b]? := by
  simp only [grow, putRow, mapBlock, Sort.ahead]
  rw [Array.getElem?_append_left (by simpa using hb), Array.getElem?_modify, if_neg (fun e => hne e.symm)]

theorem grow_put_same {enc : β → Value} {blk off n : Nat} {d : Array β} {os : Array Obj} : WSame w (grow (putRow enc (Sort.ahead w n) blk off d) os) := ⟨rfl, rfl, rfl, Nat.le_add_right _ _⟩

theorem grow_put_size {enc : β → Value} {blk off n : Nat} {d : Array β} {os : Array Obj} : w.heap.size ≤ (grow (putRow enc (Sort.ahead w n) blk off d) os).heap.size := by
  simp [grow, putRow, mapBlock, Sort.ahead]

theorem putCells_getD {enc : β → Value} {d : Array β} {c : Array Value} {k : Nat} (hk : k < d.size) (hc : k < c.size) : (putCells enc 0 d c).getD k undef = enc d[k]! := by
  simp [putCells, Array.getD_eq_getD_getElem?, Array.getElem?_mapIdx, hk, hc]

/-- A slice of a whole row that is not empty. -/
theorem slice_whole (hr : Rep pl M h w) {id ep len sz : Nat} {op : Bool} {cap : Option Nat} {xs : List AV} {x : Value} (hv : VRel pl M (.slice id ep 0 len cap) x) (hg : h.get id = some (.row sz op ep xs)) (hl : 0 < len) :
    ∃ p c t cap', pl id = some p ∧ w.heap[p.blk]? = some (.cells c t (0, 0)) ∧ x = .slice (some ⟨p.blk, 0, none⟩) len cap' ∧ InMem pl M c 0 sz xs ∧ 0 < sz ∧ p.blk < w.heap.size := by
  cases hv with
  | slice hp he hle hk ha =>
    rename_i cap' a p
    have ho := hr.obj id p _ hp hg
    cases hb : w.heap[p.blk]? with
    | none => rw [hb] at ho; simp [ObjRel] at ho
    | some ob =>
      rw [hb] at ho
      cases ob <;> simp only [ObjRel] at ho
      rename_i c t fr
      obtain ⟨h1, h2, h3, h4, h5, h6, h7, h8⟩ := ho
      subst h5
      obtain ⟨k1, _⟩ := ha (by omega)
      have k2 : a = ⟨p.blk, 0, none⟩ := by
        rcases k1 with k | k
        · omega
        · rw [k, Nat.zero_mul]
      exact ⟨p, c, t, _, hp, hb, by rw [k2], h8, h6, (Array.getElem?_eq_some_iff.1 hb).1⟩

theorem args1 {x : AV} {vs : Array Value} (hv : VRels pl M [x] vs) : ∃ a, vs = #[a] ∧ VRel pl M x a := by
  obtain ⟨l⟩ := vs
  match l, hv with
  | [a], hv => exact ⟨a, rfl, hv.at_ 0 x rfl⟩
  | [], hv => have := hv.len; simp at this
  | _ :: _ :: _, hv => have := hv.len; simp at this
theorem args2 {x y : AV} {vs : Array Value} (hv : VRels pl M [x, y] vs) : ∃ a b, vs = #[a, b] ∧ VRel pl M x a ∧ VRel pl M y b := by
  obtain ⟨l⟩ := vs
  match l, hv with
  | [a, b], hv => exact ⟨a, b, rfl, hv.at_ 0 x rfl, hv.at_ 1 y rfl⟩
  | [], hv => have := hv.len; simp at this
  | [_], hv => have := hv.len; simp at this
  | _ :: _ :: _ :: _, hv => have := hv.len; simp at this
theorem rel_func {f : Fn} {a : Value} (hv : VRel pl M (.func f [] []) a) : a = .func f #[] #[] := by
  cases hv with
  | func h1 h2 h3 h4 =>
    rename_i vs ws
    have e1 : vs = #[] := Array.eq_empty_of_size_eq_zero h1.symm
    have e2 : ws = #[] := Array.eq_empty_of_size_eq_zero h2.symm
    rw [e1, e2]

theorem tuple_rel : VRel pl M (.tuple []) (.tuple #[]) := .tuple rfl fun j y h => by simp at h

/-- .. of none. -/
theorem sortNil_call {f : FuncId} (hE : ∀ vs w, (callFunc f vs).run P w = .ok (.enter f vs) w)
    (hC : ∀ (p : Option Addr) (cap : Nat) (w : World), Calls P f #[.slice p 0 cap] w fun e w' => e = .returned (.tuple #[]) ∧ w' = w) : HPure P G f [.nils] (.tuple []) := by
  intro h pl M w vs hG hr hv
  obtain ⟨a, rfl, hv1⟩ := args1 hv
  cases hv1
  exact .inl ⟨hE _ _, Calls.mono (hC none 0 w) fun e w' ⟨he, hw⟩ => ⟨.tuple #[], .tuple [], h, he, ⟨rfl, rfl⟩, pl, M, tuple_rel, by rw [hw]; exact ⟨hr, StepF.refl .., Nat.le_refl _⟩⟩⟩
theorem sortFuncNil_call {f : FuncId} {g : Fn} (hE : ∀ vs w, (callFunc f vs).run P w = .ok (.enter f vs) w)
    (hC : ∀ (p : Option Addr) (cap : Nat) (fv : Value) (w : World), Calls P f #[.slice p 0 cap, fv] w fun e w' => e = .returned (.tuple #[]) ∧ w' = w) : HPure P G f [.nils, .func g [] []] (.tuple []) := by
  intro h pl M w vs hG hr hv
  obtain ⟨a, b, rfl, hv1, hv2⟩ := args2 hv
  cases hv1
  exact .inl ⟨hE _ _, Calls.mono (hC none 0 b w) fun e w' ⟨he, hw⟩ => ⟨.tuple #[], .tuple [], h, he, ⟨rfl, rfl⟩, pl, M, tuple_rel, by rw [hw]; exact ⟨hr, StepF.refl .., Nat.le_refl _⟩⟩⟩

def ltBy {α : Type} (cmp : α → α → Int) (a b : α) : Bool := decide (cmp a b < 0)

/-- slices.SortFunc of structs, by what the kit says of it. -/
theorem sortFunc_call {f g : FuncId} {sz : Nat} (hGT : GTop G) (hE : ∀ vs w, (callFunc f vs).run P w = .ok (.enter f vs) w) (hg2 : ∀ args w, (callFunc g args).run P w = .ok (.enter g args) w)
    (hC : ∀ (m : Nat) (enc : Fin (m + 1) → List Value) (cf : Fin (m + 1) → Fin (m + 1) → Int) (blk off cap : Nat) (d : Array (Fin (m + 1))) (w : World), (∀ x, (enc x).length = sz) → (∀ x, ∀ v ∈ enc x, v.oneCell' = true) → SWO (ltOf cf) →
      CmpLays P g #[] enc sz cf blk off d.size w → HoldsK enc sz w blk off d → blk < w.heap.size → d.size < 4611686018427387904 →
      Calls P f #[.slice (some ⟨blk, off, none⟩) d.size cap, .func (.func g) #[] #[]] w fun e w' => e = .returned (.tuple #[]) ∧ ∃ d' n os, PermIn 0 d.size d d' ∧ SortedIn (ltOf cf) 0 d.size d' ∧ w' = sortWorldK enc sz w blk off n d' os)
    {α : Type} [Inhabited α] (enc : α → AV) (cmp : α → α → Int) (hO : SWO (ltBy cmp)) (hag : ∀ a, ∃ cs, enc a = .agg cs) (htop : ∀ a, (enc a).top = 0)
    (l : List α) (hcmp : ∀ a, a ∈ l → ∀ b, b ∈ l → HPure P G g [enc a, enc b] (.int .i64 (cmp a b)))
    {oid ep : Nat} {op : Bool} {cap : Option Nat} (hg : h.get oid = some (.row sz op ep (l.map enc))) (hz : 0 < l.length) (hb : l.length < 4611686018427387904) :
    HCall P G f [.slice oid ep 0 l.length cap, .func (.func g) [] []] h (fun v h' => ∃ l' : List α, (l'.Perm l ∧ l'.Pairwise fun a b => ltBy cmp b a = false) ∧ v = .tuple [] ∧ h' = h.put oid (.row sz op ep (l'.map enc))) := by
  intro pl M w vs hG hr hv
  obtain ⟨a, fv, rfl, hv1, hv2⟩ := args2 hv
  have e2 := rel_func hv2
  subst e2
  obtain ⟨p, c, t, cap', hp, hbl, rfl, hm, hsz0, hlt⟩ := slice_whole hr hv1 hg hz
  obtain ⟨m, hm1⟩ : ∃ m, l.length = m + 1 := ⟨l.length - 1, by omega⟩
  have hfit := hm.fit
  rw [List.length_map, Nat.zero_add, hm1] at hfit
  have helem : ∀ i : Fin (m + 1), (l.map enc)[i.1]? = some (enc l[i.1]!) := fun i => by
    have := i.2
    rw [List.getElem?_map, List.getElem?_eq_getElem (by omega), getElem!_pos l i.1 (by omega)]; rfl
  have hmul : ∀ i : Fin (m + 1), i.1 * sz + sz ≤ (m + 1) * sz := fun i => by
    have := Nat.mul_le_mul_right sz (Nat.succ_le_of_lt i.2); rwa [Nat.succ_mul] at this
  generalize hcof : (fun i : Fin (m + 1) => (List.range sz).map fun j => c.getD (i.1 * sz + j) undef) = cellsOf
  have cl : ∀ i, (cellsOf i).length = sz := fun i => by rw [← hcof]; simp
  have cg : ∀ i j, j < sz → (cellsOf i)[j]? = some (c.getD (i.1 * sz + j) undef) := fun i j hj => by rw [← hcof]; simp [hj]
  generalize hd : (Array.ofFn (n := m + 1) id) = d
  have hds : d.size = m + 1 := by rw [← hd]; simp
  have hdg : ∀ j (hj : j < m + 1), d[j]! = ⟨j, hj⟩ := fun j hj => by rw [getElem!_pos d j (by omega)]; subst hd; simp
  have hflat : ∀ (dk : Array (Fin (m + 1))), dk.size = m + 1 → ∀ i j, i < m + 1 → j < sz → (flatK cellsOf sz dk)[i * sz + j]! = c.getD ((dk[i]!).1 * sz + j) undef := fun dk hdk i j hi hj => by
    have h1 : i * sz + j < dk.size * sz := by
      have := Nat.mul_le_mul_right sz (Nat.succ_le_of_lt hi); rw [Nat.succ_mul] at this; rw [hdk]; omega
    rw [get_flatK cellsOf sz dk _ h1]
    have h2 : (i * sz + j) / sz = i := by rw [Nat.mul_comm, Nat.mul_add_div hsz0, Nat.div_eq_of_lt hj, Nat.add_zero]
    have h3 : (i * sz + j) % sz = j := by rw [Nat.mul_comm, Nat.mul_add_mod, Nat.mod_eq_of_lt hj]
    rw [h2, h3, getElem!_pos _ j (by rw [cl]; exact hj)]
    have := cg (dk[i]!) j hj
    rw [List.getElem?_eq_getElem (by rw [cl]; exact hj)] at this
    simpa using this
  have hH : HoldsK cellsOf sz w p.blk 0 d := by
    intro k hk
    rw [size_flatK, hds] at hk
    have hi : k / sz < m + 1 := Nat.div_lt_of_lt_mul (by rw [Nat.mul_comm]; exact hk)
    have hj : k % sz < sz := Nat.mod_lt _ hsz0
    have hk2 : k / sz * sz + k % sz = k := by rw [Nat.mul_comm]; exact Nat.div_add_mod k sz
    have := hflat d hds (k / sz) (k % sz) hi hj
    rw [hdg _ hi, hk2] at this
    rw [this, Nat.zero_add]
    have hkc : k < c.size := by omega
    refine ⟨?_, by simp [World.frozen?, hbl]⟩
    simp only [World.cell?, hbl]
    simp only [Option.isSome_none, Bool.false_eq_true, if_false]
    rw [Array.getElem?_eq_getElem hkc]
    simp [Array.getD, hkc]
  have hrelE : ∀ (i : Fin (m + 1)) cs, enc l[i.1]! = .agg cs → cs.length = sz ∧ (∀ y, y ∈ cs → scalB y = true) ∧ ∀ (j : Nat) (y : AV), cs[j]? = some y → VRel pl M y (c.getD (i.1 * sz + j) undef) := by
    intro i cs hcs
    have h1 := hm.elem _ (List.mem_of_getElem? (helem i))
    rw [hcs] at h1
    refine ⟨h1.1, h1.2, fun j y hj => ?_⟩
    have := hm.cell i.1 _ j y (helem i) (by rw [hcs]; exact hj)
    rwa [Nat.zero_add] at this
  have hone : ∀ i, ∀ v ∈ cellsOf i, v.oneCell' = true := by
    intro i v hvm
    obtain ⟨j, hj, e⟩ := List.getElem_of_mem hvm
    rw [cl] at hj
    have h1 := cg i j hj
    rw [List.getElem?_eq_getElem (by rw [cl]; exact hj), e] at h1
    obtain ⟨cs, hcs⟩ := hag l[i.1]!
    obtain ⟨k1, k2, k3⟩ := hrelE i cs hcs
    have := k3 j cs[j] (List.getElem?_eq_getElem (by omega))
    cases h1
    exact this.one (k2 _ (List.getElem_mem _))
  have hmemL : ∀ i : Fin (m + 1), l[i.1]! ∈ l := fun i => by
    have := i.2
    rw [getElem!_pos l i.1 (by omega)]; exact List.getElem_mem _
  have hlays : CmpLays P g #[] cellsOf sz (fun i j => cmp l[i.1]! l[j.1]!) p.blk 0 d.size w := by
    intro n os dk hdk x y
    generalize hW : sortWorldK cellsOf sz w p.blk 0 n dk os = W
    have hWo : ∀ b, b < w.heap.size → b ≠ p.blk → W.heap[b]? = w.heap[b]? := fun b h1 h2 => by rw [← hW]; exact grow_put_other h1 h2
    have hrW : Rep (fun _ => none) M AHeap.none W := rep_none (pl := fun _ => none) (n := 0) (g := AHeap.none.get) ⟨fun _ _ h => by simp at h, fun _ _ _ h => by simp at h, fun _ _ h => by simp at h, fun _ _ _ _ h => by simp at h, fun b c' hM => by
      obtain ⟨t', fr, q⟩ := hr.imm b c' hM
      refine ⟨t', fr, ?_⟩
      rw [hWo b (hr.memLt hM) (fun e => by have := hr.sep oid p hp; rw [← e, hM] at this; cases this)]
      exact q, fun _ _ h => by simp at h⟩
    have hrel : ∀ i : Fin (m + 1), VRel (fun _ => none) M (enc l[i.1]!) (.agg (cellsOf i).toArray) := by
      intro i
      obtain ⟨cs, hcs⟩ := hag l[i.1]!
      obtain ⟨k1, k2, k3⟩ := hrelE i cs hcs
      have ht := htop l[i.1]!
      rw [hcs] at ht ⊢
      refine .agg (by simp [cl, k1]) k2 fun j y hj => ?_
      have hj' : j < sz := by rw [← k1]; exact (List.getElem?_eq_some_iff.1 hj).1
      have e : (cellsOf i).toArray.getD j undef = c.getD (i.1 * sz + j) undef := by
        have := cg i j hj'
        rw [Array.getD_eq_getD_getElem?, List.getElem?_toArray, this]; rfl
      rw [e]
      exact (k3 j y hj).none (tops_0.1 ht y (List.mem_of_getElem? hj))
    have hc := hcmp _ (hmemL x) _ (hmemL y) AHeap.none (fun _ => none) M W #[.agg (cellsOf x).toArray, .agg (cellsOf y).toArray] (hG.none hGT) hrW ⟨rfl, fun j z hj => by
      match j, hj with
      | 0, hj => cases hj; exact hrel x
      | 1, hj => cases hj; exact hrel y⟩
    rcases hc with ⟨h1, h2⟩ | ⟨cv, w', v, h', h1, h2, h3⟩
    · refine Calls.mono h2 fun e w' ⟨cv, v, h', k1, k2, pl', M', k3, k4, k5, k6⟩ => ?_
      obtain ⟨k2, _⟩ := k2
      subst k2
      cases k3
      refine ⟨k1, ?_⟩
      obtain ⟨q, hq⟩ := regrown_of_below (w := W) (w' := w') ⟨k5.os, k5.tape, k5.out, k5.size, fun b hb => k5.kept b hb fun id p h => by simp at h⟩
      refine ⟨w'.drawn - W.drawn, q.os, ?_⟩
      have hd1 : w'.drawn = q.d := by rw [hq]; rfl
      have hd2 := k5.drawn
      have : redrawn W q.d = W.drewN (w'.drawn - W.drawn) := by
        show ({ W with drawn := q.d } : World) = { W with drawn := W.drawn + (w'.drawn - W.drawn) }
        congr 1; omega
      rw [← this]; exact hq
    · rw [hg2] at h1; cases h1
  refine .inl ⟨hE _ _, ?_⟩
  have hcall := hC m cellsOf (fun i j => cmp l[i.1]! l[j.1]!) p.blk 0 cap' d w cl hone ⟨fun x => hO.irrefl _, fun x y z => hO.trans _ _ _, fun x y z => hO.ntrans _ _ _⟩ hlays hH hlt (by omega)
  rw [show d.size = l.length by omega] at hcall
  refine Calls.mono hcall fun e w' ⟨he, d', n, os, hP, hS, hw⟩ => ?_
  obtain ⟨hp1, _, hp3⟩ := hP
  have hd's : d'.size = m + 1 := by omega
  have hperm : d'.toList.Perm d.toList := by
    have e1 : d'.extract 0 l.length = d' := by rw [show l.length = d'.size by omega]; exact Array.extract_size
    have e2 : d.extract 0 l.length = d := by rw [show l.length = d.size by omega]; exact Array.extract_size
    rwa [e1, e2] at hp3
  have hdl : d.toList.map (fun i => l[i.1]!) = l := by
    apply List.ext_getElem?
    intro i
    by_cases hi : i < l.length
    · rw [List.getElem?_map, Array.getElem?_toList, Array.getElem?_eq_getElem (by omega), List.getElem?_eq_getElem hi]
      have := hdg i (by omega)
      rw [getElem!_pos d i (by omega)] at this
      rw [this]
      show some (l[i]!) = some l[i]
      rw [getElem!_pos l i hi]
    · rw [List.getElem?_eq_none (by simp; omega), List.getElem?_eq_none (by omega)]
  have hl' : (d'.toList.map (fun i => l[i.1]!)).length = l.length := by simp; omega
  refine ⟨.tuple #[], .tuple [], _, he, ⟨d'.toList.map (fun i => l[i.1]!), ⟨?_, ?_⟩, rfl, rfl⟩, pl, M, tuple_rel, ?_⟩
  · have := hperm.map (fun i => l[i.1]!); rwa [hdl] at this
  · rw [List.pairwise_iff_getElem]
    intro i j hi hj hij
    have hi' : i < d'.size := by simpa using hi
    have hj' : j < d'.size := by simpa using hj
    have := hS i j (Nat.zero_le _) hij (by omega)
    rw [getElem!_pos d' i hi', getElem!_pos d' j hj'] at this
    simpa [ltBy, ltOf] using this
  · have hw1 : w'.heap[p.blk]? = some (.cells (putCells id 0 (flatK cellsOf sz d') c) t (0, 0)) := by rw [hw]; exact grow_put_at hbl
    obtain ⟨r1, r2⟩ := Rep.rowNew (w' := w') (xs' := (d'.toList.map (fun i => l[i.1]!)).map enc) hr hp hg hbl hw1 (by simp [putCells]) (by simp; omega) (fun x hx => by
        obtain ⟨z, h1, rfl⟩ := List.mem_map.1 hx
        obtain ⟨i, _, rfl⟩ := List.mem_map.1 h1
        exact hm.elem _ (List.mem_of_getElem? (helem i))) (fun i x j y q1 q2 => by
        rw [List.getElem?_map, List.getElem?_map, Array.getElem?_toList] at q1
        obtain ⟨z, e1, rfl⟩ := Option.map_eq_some_iff.1 q1
        obtain ⟨k, e2, rfl⟩ := Option.map_eq_some_iff.1 e1
        have hi : i < d'.size := (Array.getElem?_eq_some_iff.1 e2).1
        obtain ⟨cs, hcs⟩ := hag l[k.1]!
        obtain ⟨k1, k2, k3⟩ := hrelE k cs hcs
        rw [hcs] at q2
        have hj : j < sz := by rw [← k1]; exact (List.getElem?_eq_some_iff.1 q2).1
        have hb1 : i * sz + j < (m + 1) * sz := by
          have := Nat.mul_le_mul_right sz (Nat.succ_le_of_lt (show i < m + 1 by omega)); rw [Nat.succ_mul] at this; omega
        rw [putCells_getD (by rw [size_flatK, hd's]; exact hb1) (by omega)]
        have := hflat d' hd's i j (by omega) hj
        have e3 : d'[i]! = k := by rw [getElem!_pos d' i hi]; rw [Array.getElem?_eq_getElem hi] at e2; simpa using e2
        rw [e3] at this
        show VRel pl M y (flatK cellsOf sz d')[i * sz + j]!
        rw [this]
        exact k3 j y q2) (by rw [hw]; exact grow_put_same) (by rw [hw]; exact grow_put_size) (fun b hb hne => by rw [hw]; exact grow_put_other hb hne)
    exact ⟨r1, r2, Nat.le_refl _⟩

end
end Go.Ev

/- What is read as data lies in memory as a list of structures: arguments of a law as Lean data. -/
namespace Go.Ev
open Go
section
variable {H : Type} {enc : TypeId × Value → H} {P : Program} {w : World} {base : Nat} {spare : Nat → Bool} {held : Bool}

/-- Values against cells. -/
inductive VL (M : Mem) : List AV → List Value → Prop
  | nil : VL M [] []
  | cons {x : AV} {v : Value} {xs : List AV} {vs : List Value} (h : VRel (fun _ => none) M x v) (t : VL M xs vs) : VL M (x :: xs) (v :: vs)
theorem VL.append {M : Mem} {xs ys : List AV} {a b : List Value} (h : VL M xs a) (k : VL M ys b) : VL M (xs ++ ys) (a ++ b) := by
  induction h with
  | nil => exact k
  | cons h _ ih => exact .cons h ih
theorem VL.len {M : Mem} {xs : List AV} {a : List Value} (h : VL M xs a) : xs.length = a.length := by
  induction h with
  | nil => rfl
  | cons _ _ ih => simp [ih]
theorem VL.at_ {M : Mem} {xs : List AV} {a : List Value} (h : VL M xs a) : ∀ (j : Nat) (y : AV), xs[j]? = some y → ∃ v, a[j]? = some v ∧ VRel (fun _ => none) M y v := by
  induction h with
  | nil => intro j y hj; simp at hj
  | cons h _ ih =>
    intro j y hj
    cases j with
    | zero => simp at hj; subst hj; exact ⟨_, rfl, h⟩
    | succ j => simp at hj; simpa using ih j y hj
theorem VL.one {M : Mem} {x : AV} {cs : List Value} (h : VL M [x] cs) : ∃ v, cs = [v] ∧ VRel (fun _ => none) M x v := by
  cases h with
  | cons h t => cases t; exact ⟨_, rfl, h⟩

/-- Nothing met in reading it takes more than there are addresses. -/
def Wt (P : Program) (t : TypeId) (d : DataW H) : Prop := ∀ m, m ∈ d.weights P t → m ≤ reachBytes
theorem weightsAll_mem {e : TypeId} {d : DataW H} {m : Nat} (hm : m ∈ d.weights P e) : ∀ {l : List (DataW H)}, d ∈ l → m ∈ DataW.weightsAll P e l
  | [], h => by cases h
  | a :: r, h => by
    unfold DataW.weightsAll
    rcases List.mem_cons.1 h with rfl | h
    · exact List.mem_append_left _ hm
    · exact List.mem_append_right _ (weightsAll_mem hm h)
theorem weightsEach_mem {t : TypeId} {d : DataW H} {m : Nat} (hm : m ∈ d.weights P t) : ∀ {ts : List TypeId} {l : List (DataW H)} (i : Nat), ts[i]? = some t → l[i]? = some d → m ∈ DataW.weightsEach P ts l
  | [], _, i, h, _ => by simp at h
  | _ :: _, [], i, _, h => by simp at h
  | u :: ts, a :: r, i, h1, h2 => by
    unfold DataW.weightsEach
    cases i with
    | zero => simp at h1 h2; subst h1; subst h2; exact List.mem_append_left _ hm
    | succ i => exact List.mem_append_right _ (weightsEach_mem hm i (by simpa using h1) (by simpa using h2))

/-- Fields lie one behind the other. -/
def consec (P : Program) : List Field → Nat → Nat → Bool
  | [], off, n => Nat.beq off n
  | f :: r, off, n => Nat.beq f.offset off && consec P r (off + P.cellsOf f.type) n
def VF (M : Mem) (P : Program) (cs : List Value) : List Field → List (List AV) → Prop
  | [], [] => True
  | f :: fs, xs :: xss => VL M xs ((cs.drop f.offset).take (P.cellsOf f.type)) ∧ VF M P cs fs xss
  | _, _ => False
theorem VF.vl {M : Mem} {cs : List Value} : ∀ {fs : List Field} {xss : List (List AV)} {off : Nat}, consec P fs off cs.length = true → VF M P cs fs xss → VL M xss.flatten (cs.drop off)
  | [], [], off, h, _ => by
    have := Nat.eq_of_beq_eq_true h
    rw [this, List.drop_length]; exact .nil
  | [], _ :: _, _, _, h => h.elim
  | _ :: _, [], _, _, h => h.elim
  | f :: fs, xs :: xss, off, h, k => by
    unfold consec at h
    rw [Bool.and_eq_true] at h
    have ho := Nat.eq_of_beq_eq_true h.1
    have h1 := k.1
    rw [ho] at h1
    have h2 := VF.vl h.2 k.2
    have e : cs.drop off = (cs.drop off).take (P.cellsOf f.type) ++ cs.drop (off + P.cellsOf f.type) := by
      rw [← List.drop_drop, List.take_append_drop]
    rw [List.flatten_cons, e]
    exact h1.append h2
/-- Each field is read as data. -/
def TF (enc : TypeId × Value → H) (P : Program) (w : World) (base : Nat) (spare : Nat → Bool) (held : Bool) (n : Nat) (cs : List Value) : List Field → Prop
  | [] => True
  | f :: fs => (∃ d p, DataW.trod enc P w base spare held n f.type ((cs.drop f.offset).take (P.cellsOf f.type)) = some (d, p) ∧ Wt P f.type d) ∧ TF enc P w base spare held n cs fs
theorem TF_of {n : Nat} {cs : List Value} : ∀ (fs : List Field), (∀ (i : Nat) (f : Field), fs[i]? = some f → ∃ d p, DataW.trod enc P w base spare held n f.type ((cs.drop f.offset).take (P.cellsOf f.type)) = some (d, p) ∧ Wt P f.type d) → TF enc P w base spare held n cs fs
  | [], _ => trivial
  | f :: fs, h => ⟨h 0 f rfl, TF_of fs fun i g hg => h (i + 1) g (by simpa using hg)⟩
theorem struct_vl {t : TypeId} {fs : Array Field} {fuel : Nat} {cs : List Value} {d : DataW H} {p : List MemPlace} (hu : P.underlying t = some (.struct fs)) (hc : consec P fs.toList 0 (P.cellsOf t) = true)
    (h : DataW.trod enc P w base spare held fuel t cs = some (d, p)) (hw : Wt P t d) :
    ∃ n, fuel = n + 1 ∧ TF enc P w base spare held n cs fs.toList ∧ ∀ xss, VF (memOf w) P cs fs.toList xss → VL (memOf w) xss.flatten cs := by
  obtain ⟨xs, n, rfl, h1, h2, h3, h4⟩ := DataW.trod_struct hu h
  simp only [Prod.mk.injEq] at h1
  obtain ⟨rfl, _⟩ := h1
  refine ⟨n, rfl, TF_of _ fun i f hf => ?_, fun xss hx => ?_⟩
  · have hf' : fs[i]? = some f := by simpa using hf
    have hi : i < xs.length := by rw [h3]; exact (Array.getElem?_eq_some_iff.1 hf').1
    have e := h4 i f hf'
    rw [List.getElem?_eq_getElem hi] at e
    refine ⟨xs[i].1, xs[i].2, e, fun m hm => hw m ?_⟩
    unfold DataW.weights
    rw [hu]
    exact weightsEach_mem hm i (by rw [List.getElem?_map, hf]; rfl) (by rw [List.getElem?_map, List.getElem?_eq_getElem hi]; rfl)
  · have := VF.vl (off := 0) (by rw [h2]; exact hc) hx
    simpa using this

theorem int_vl {t : TypeId} {fuel : Nat} {cs : List Value} {d : DataW H} {p : List MemPlace} (hu : P.underlying t = some (.int .i64)) (h : DataW.trod enc P w base spare held fuel t cs = some (d, p)) : ∃ x, VL (memOf w) [.int .i64 x] cs := by
  obtain ⟨x, rfl, _⟩ := DataW.trod_int hu h
  exact ⟨x, .cons (.int _ _) .nil⟩
theorem str_vl {t : TypeId} {fuel : Nat} {cs : List Value} {d : DataW H} {p : List MemPlace} (hu : P.underlying t = some .string) (h : DataW.trod enc P w base spare held fuel t cs = some (d, p)) : ∃ s, VL (memOf w) [.str s] cs := by
  obtain ⟨⟨⟨s⟩⟩, rfl, _⟩ := DataW.trod_string hu h
  exact ⟨s, .cons (.str _) .nil⟩

theorem list_of {α : Type} {Q : Nat → α → Prop} : ∀ (n : Nat), (∀ i, i < n → ∃ x, Q i x) → ∃ l : List α, l.length = n ∧ ∀ i x, l[i]? = some x → Q i x
  | 0, _ => ⟨[], rfl, fun i x h => by simp at h⟩
  | n + 1, h => by
    obtain ⟨l, h1, h2⟩ := list_of n fun i hi => h i (by omega)
    obtain ⟨y, hy⟩ := h n (by omega)
    refine ⟨l ++ [y], by simp [h1], fun i x hx => ?_⟩
    by_cases hi : i < l.length
    · rw [List.getElem?_append_left hi] at hx; exact h2 i x hx
    · rw [List.getElem?_append_right (by omega)] at hx
      have : i - l.length = 0 := by
        cases hq : i - l.length with
        | zero => rfl
        | succ k => rw [hq] at hx; simp at hx
      rw [this] at hx; simp at hx; subst hx
      have : i = n := by omega
      rw [this]; exact hy

theorem Sc_of {x : AV} (h : x.cells.all scalB = true) : Sc x := fun y hy => List.all_eq_true.1 h y hy

theorem slice_vl {α : Type} (el : α → AV) (fit : α → Prop) {t e : TypeId} {fuel : Nat} {cs : List Value} {d : DataW H} {p : List MemPlace} (hu : P.underlying t = some (.slice e)) (hsz : Nat.blt 0 (P.cellsOf e) = true) (hby : Nat.blt 0 (P.bytesOf e) = true)
    (hel : ∀ x, (el x).cells.length = P.cellsOf e) (hsc : ∀ x, (el x).cells.all scalB = true) (htop : ∀ x, (el x).top = 0)
    (hrec : ∀ m, m < fuel → ∀ cs d p, DataW.trod enc P w base spare held m e cs = some (d, p) → Wt P e d → ∃ x, fit x ∧ VL (memOf w) (el x).cells cs)
    (h : DataW.trod enc P w base spare held fuel t cs = some (d, p)) (hw : Wt P t d) :
    ∃ l : List α, l.length < 2 ^ 60 ∧ (∀ x, x ∈ l → fit x) ∧ VL (memOf w) [.ls (l.map el)] cs := by
  rw [blt_iff] at hsz hby
  simp only [decide_eq_true_eq] at hsz hby
  rcases DataW.trod_slice hu h with ⟨rfl, _⟩ | ⟨a, len, cap, elems, rest, n, rfl, rfl, h1, h2, h3, h4, h5, h6, _, _⟩
  · exact ⟨[], Nat.two_pow_pos 60, fun x h => absurd h (List.not_mem_nil), .cons .lsn .nil⟩
  · simp only [Prod.mk.injEq] at h1
    obtain ⟨rfl, _⟩ := h1
    have hwl : len < 2 ^ 60 := by
      have := hw ((elems.length + rest.length) * P.bytesOf e) (by
        unfold DataW.weights
        rw [hu]
        simp)
      have h7 : elems.length ≤ (elems.length + rest.length) * P.bytesOf e := Nat.le_trans (Nat.le_add_right _ _) (Nat.le_mul_of_pos_right _ hby)
      have : elems.length ≤ reachBytes := Nat.le_trans h7 this
      rw [h5] at this
      exact Nat.lt_of_le_of_lt this (by decide)
    have el0 : ∀ i, i < len → ∃ x, fit x ∧ ∃ cs : List Value, cs.length = P.cellsOf e ∧ (∀ j, j < P.cellsOf e → w.cell? ((a.add (i * P.cellsOf e)).add j) = cs[j]?) ∧ VL (memOf w) (el x).cells cs := by
      intro i hi
      have k5 := h6 i hi
      have hi' : i < elems.length := by omega
      rw [List.getElem?_eq_getElem hi'] at k5
      simp only [Option.bind_eq_some_iff] at k5
      obtain ⟨cs, c1, c2⟩ := k5
      obtain ⟨z1, z2⟩ := cells?_at c1
      obtain ⟨x, f1, f2⟩ := hrec n (by omega) cs elems[i].1 elems[i].2 c2 (fun m hm => hw m (by
        unfold DataW.weights
        rw [hu]
        exact List.mem_cons_of_mem _ (List.mem_append_left _ (weightsAll_mem hm (List.mem_map.2 ⟨elems[i], List.getElem_mem hi', rfl⟩)))))
      exact ⟨x, f1, cs, z1, z2, f2⟩
    obtain ⟨l, q1, q2⟩ := list_of len el0
    refine ⟨l, by omega, fun x hx => ?_, .cons ?_ .nil⟩
    · obtain ⟨i, hi⟩ := List.mem_iff_getElem?.1 hx
      exact (q2 i x hi).1
    · have q1' : (l.map el).length = len := by rw [List.length_map, q1]
      generalize hys : l.map el = ys at *
      have q3 : ∀ i y, ys[i]? = some y → ∃ cs : List Value, cs.length = P.cellsOf e ∧ (∀ j, j < P.cellsOf e → w.cell? ((a.add (i * P.cellsOf e)).add j) = cs[j]?) ∧ VL (memOf w) y.cells cs := by
        intro i y hy
        rw [← hys, List.getElem?_map, Option.map_eq_some_iff] at hy
        obtain ⟨x, hx, rfl⟩ := hy
        exact (q2 i x hx).2
      have q4 : ∀ y, y ∈ ys → y.cells.length = P.cellsOf e ∧ Sc y := by
        intro y hy
        rw [← hys, List.mem_map] at hy
        obtain ⟨x, _, rfl⟩ := hy
        exact ⟨hel x, Sc_of (hsc x)⟩
      have q5 : AV.tops ys = 0 := by rw [← hys]; exact tops_map htop l
      have addadd : ∀ i j : Nat, a.spot = none → (a.add i).add j = ⟨a.block, a.off + i + j, none⟩ := by
        intro i j hs
        obtain ⟨blk, off, spot⟩ := a
        simp at hs
        subst hs
        by_cases hi : i = 0 <;> by_cases hj : j = 0 <;> simp [Addr.add, hi, hj]
      have spot : ys ≠ [] → a.spot = none := by
        intro hne
        obtain ⟨x, hx⟩ : ∃ x, ys[0]? = some x := by
          cases ys with
          | nil => exact absurd rfl hne
          | cons x r => exact ⟨x, rfl⟩
        obtain ⟨cs, c1, c2, _⟩ := q3 0 x hx
        have := c2 0 hsz
        rw [List.getElem?_eq_getElem (by omega)] at this
        simp only [Nat.zero_mul] at this
        have := (cell?_mem this).1
        simpa [Addr.add] using this
      have cell : ∀ (i j : Nat) (x : AV), ys[i]? = some x → j < P.cellsOf e → ∃ c v, memOf w a.block = some c ∧ c[a.off + i * P.cellsOf e + j]? = some v ∧ ∀ y, x.cells[j]? = some y → VRel (fun _ => none) (memOf w) y v := by
        intro i j x hx hj
        obtain ⟨cs, c1, c2, c3⟩ := q3 i x hx
        have := c2 j hj
        rw [List.getElem?_eq_getElem (by omega), addadd _ _ (spot (by intro h; rw [h] at hx; simp at hx))] at this
        obtain ⟨_, c, m1, m2⟩ := cell?_mem this
        refine ⟨c, _, m1, m2, fun y hy => ?_⟩
        obtain ⟨v, g1, g2⟩ := c3.at_ j y hy
        rw [List.getElem?_eq_getElem (by omega)] at g1
        cases g1
        exact g2
      refine .lsp ?_ q5
      by_cases hne : ys = []
      · subst hne
        simp at q1'
        subst q1'
        exact .ps (sz := P.cellsOf e) (c := #[]) (by simp) (fun h => by cases h) (fun h => absurd rfl h) (fun x h => by simp at h) (fun i x j y h => by simp at h)
      · have hlen : 0 < ys.length := List.length_pos_iff.2 hne
        obtain ⟨x0, hx0⟩ : ∃ x, ys[ys.length - 1]? = some x := ⟨ys[ys.length - 1], by simp⟩
        obtain ⟨c, v0, m1, m2, _⟩ := cell (ys.length - 1) (P.cellsOf e - 1) x0 hx0 (by omega)
        have hc := (Array.getElem?_eq_some_iff.1 m2).1
        have hfit : a.off + ys.length * P.cellsOf e ≤ c.size := by
          have h1 : (ys.length - 1) * P.cellsOf e + P.cellsOf e = ys.length * P.cellsOf e := by
            rw [← Nat.succ_mul]; congr 1; omega
          omega
        have := VRel.ps (pl := fun _ => none) (M := memOf w) (xs := ys) (tight := false) (a := a) (cap := cap) (sz := P.cellsOf e) (c := c) (by omega) (fun h => by cases h) (fun _ => ⟨spot hne, m1, hfit, hsz⟩) q4
          (fun i x j y hx hy => by
            obtain ⟨r1, _⟩ := q4 x (List.mem_of_getElem? hx)
            have hj : j < P.cellsOf e := by rw [← r1]; exact (List.getElem?_eq_some_iff.1 hy).1
            obtain ⟨c', v, n1, n2, n3⟩ := cell i j x hx hj
            rw [m1] at n1
            cases n1
            rw [Array.getD_eq_getD_getElem?, n2]
            exact n3 y hy)
        rw [q1'] at this
        exact this
end
end Go.Ev

/- Words counted by the act that wrote them. -/
namespace Go.Ev
open Go

structure PPair where
  a : Int
  b : Int
deriving Inhabited, DecidableEq
def encPair (p : PPair) : AV := .agg [.int .i64 p.a, .int .i64 p.b]
theorem encPair_top (p : PPair) : (encPair p).top = 0 := rfl
structure PRef where
  act : Int
  item : Int
deriving Inhabited, DecidableEq
def encRef (p : PRef) : AV := .agg [.int .i64 p.act, .int .i64 p.item]
theorem encRef_top (p : PRef) : (encRef p).top = 0 := rfl

/-- The words of a unit; of a tree. -/
def wordsOf (u : TUnit) : List PWord := u.head ++ u.words
mutual
def allW : TUnit → List PWord
  | ⟨_, _, _, _, _, h, w, ks⟩ => (h ++ w) ++ allWs ks
def allWs : List TUnit → List PWord
  | [] => []
  | k :: r => allW k ++ allWs r
end
theorem allW_eq (u : TUnit) : allW u = wordsOf u ++ allWs u.kids := by
  obtain ⟨a, b, c, d, e, h, w, ks⟩ := u; rw [allW]; rfl
theorem allWs_nil : allWs [] = [] := by rw [allWs]
theorem allWs_cons (k : TUnit) (r : List TUnit) : allWs (k :: r) = allW k ++ allWs r := by rw [allWs]

/-- How many of them an act wrote. -/
def getC (k : Int) (m : List (Int × Int)) : Int := (getI k m).getD 0
def incr (m : List (Int × Int)) (w : PWord) : List (Int × Int) := setI w.act (getC w.act m + 1) m
def tally (ws : List PWord) (m : List (Int × Int)) : List (Int × Int) := ws.foldl incr m
def cnt (k : Int) : List PWord → Int
  | [] => 0
  | w :: r => (match eqI w.act k with | true => 1 | false => 0) + cnt k r
theorem cnt_append (k : Int) : ∀ (a b : List PWord), cnt k (a ++ b) = cnt k a + cnt k b
  | [], b => by simp [cnt]
  | w :: r, b => by simp only [List.cons_append, cnt, cnt_append k r b]; omega
theorem cnt_le (k : Int) : ∀ (a : List PWord), 0 ≤ cnt k a ∧ cnt k a ≤ Int.ofNat a.length
  | [] => ⟨Int.le_refl _, Int.le_refl _⟩
  | w :: r => by
    have := cnt_le k r
    simp only [cnt, List.length_cons, Int.ofNat_eq_natCast] at *
    cases eqI w.act k <;> simp only <;> omega

theorem getI_setI (k j v : Int) : ∀ (m : List (Int × Int)), getI k (setI j v m) = if k = j then some v else getI k m
  | [] => by
    simp only [setI, getI]
    by_cases h : k = j
    · subst h; simp [eqI_refl]
    · have : eqI k j = false := by rw [eqI_iff]; exact decide_eq_false h
      simp [this, h]
  | (i, x) :: r => by
    simp only [setI]
    by_cases hji : j = i
    · subst hji
      simp only [eqI_refl, getI]
      by_cases h : k = j
      · subst h; simp [eqI_refl]
      · have : eqI k j = false := by rw [eqI_iff]; exact decide_eq_false h
        simp [this, h]
    · have e : eqI j i = false := by rw [eqI_iff]; exact decide_eq_false hji
      simp only [e, getI]
      by_cases hki : k = i
      · subst hki
        have : ¬ k = j := fun h => hji h.symm
        simp [eqI_refl, this]
      · have e2 : eqI k i = false := by rw [eqI_iff]; exact decide_eq_false hki
        simp only [e2]
        exact getI_setI k j v r
theorem getC_set (k j v : Int) (m : List (Int × Int)) : getC k (setI j v m) = if k = j then v else getC k m := by
  unfold getC; rw [getI_setI]; split <;> rfl
theorem getC_incr (k : Int) (m : List (Int × Int)) (w : PWord) : getC k (incr m w) = getC k m + cnt k [w] := by
  unfold incr
  rw [getC_set]
  simp only [cnt, eqI_iff]
  by_cases h : k = w.act
  · subst h; simp
  · have : ¬ w.act = k := fun e => h e.symm
    simp [h, this]
theorem getC_tally (k : Int) : ∀ (ws : List PWord) (m : List (Int × Int)), getC k (tally ws m) = getC k m + cnt k ws
  | [], m => by simp [tally, cnt]
  | w :: r, m => by
    show getC k (tally r (incr m w)) = _
    rw [getC_tally k r, getC_incr]
    simp only [cnt]; omega
theorem tally_append (a b : List PWord) (m : List (Int × Int)) : tally (a ++ b) m = tally b (tally a m) := List.foldl_append ..
theorem tally_cons (w : PWord) (r : List PWord) (m : List (Int × Int)) : tally (w :: r) m = tally r (incr m w) := rfl

/-- Keys stand once. -/
def Keys (m : List (Int × Int)) : Prop := (m.map (·.1)).Nodup
theorem getI_some {k v : Int} : ∀ {m : List (Int × Int)}, getI k m = some v → (k, v) ∈ m
  | [], h => by cases h
  | (i, x) :: r, h => by
    simp only [getI] at h
    cases e : eqI k i with
    | true => rw [e] at h; cases h; rw [eqI_t e]; exact List.mem_cons_self ..
    | false => rw [e] at h; exact List.mem_cons_of_mem _ (getI_some h)
theorem getI_none {k : Int} : ∀ {m : List (Int × Int)}, getI k m = none → ¬ k ∈ m.map (·.1)
  | [], _ => by simp
  | (i, x) :: r, h => by
    simp only [getI] at h
    cases e : eqI k i with
    | true => rw [e] at h; cases h
    | false =>
      rw [e] at h
      have := getI_none h
      simp only [List.map_cons, List.mem_cons]
      rintro (h1 | h1)
      · exact eqI_f e h1
      · exact this h1
theorem Keys.get {k v : Int} : ∀ {m : List (Int × Int)}, Keys m → (k, v) ∈ m → getI k m = some v
  | [], _, h => by cases h
  | (i, x) :: r, hk, h => by
    unfold Keys at hk
    rw [List.map_cons, List.nodup_cons] at hk
    simp only [getI]
    rcases List.mem_cons.1 h with h1 | h1
    · cases h1; rw [eqI_refl]
    · have hne : ¬ k = i := fun e => hk.1 (e ▸ List.mem_map.2 ⟨_, h1, rfl⟩)
      have e : eqI k i = false := by rw [eqI_iff]; exact decide_eq_false hne
      rw [e]; exact Keys.get hk.2 h1
theorem setI_keys (j v : Int) : ∀ (m : List (Int × Int)), (setI j v m).map (·.1) = if j ∈ m.map (·.1) then m.map (·.1) else m.map (·.1) ++ [j]
  | [] => by simp [setI]
  | (i, x) :: r => by
    simp only [setI]
    by_cases h : j = i
    · subst h; simp [eqI_refl]
    · have e : eqI j i = false := by rw [eqI_iff]; exact decide_eq_false h
      simp only [e, List.map_cons, setI_keys j v r, List.mem_cons, h, false_or]
      split <;> simp
theorem Keys.set {m : List (Int × Int)} (h : Keys m) (j v : Int) : Keys (setI j v m) := by
  unfold Keys at *
  rw [setI_keys]
  split
  · exact h
  · rename_i hn
    rw [List.nodup_append]
    refine ⟨h, by simp, fun a ha b hb => ?_⟩
    simp at hb; subst hb
    exact fun e => hn (e ▸ ha)
theorem Keys.tally : ∀ (ws : List PWord) {m : List (Int × Int)}, Keys m → Keys (tally ws m)
  | [], _, h => h
  | w :: r, _, h => Keys.tally r (h.set _ _)
theorem Keys.nil : Keys [] := List.nodup_nil

/-- What stands in the table: the acts with a word or more, and how many. -/
theorem tally_mem {ws : List PWord} {k v : Int} : (k, v) ∈ tally ws [] ↔ (k, v) = (k, cnt k ws) ∧ 0 < v := by
  have hk : Keys (Ev.tally ws []) := Keys.tally ws Keys.nil
  have hc : getC k (Ev.tally ws []) = cnt k ws := by rw [getC_tally]; simp [getC, getI]
  have pos : ∀ (l : List PWord) (m : List (Int × Int)), (∀ p, p ∈ m → 0 < p.2) → ∀ p, p ∈ Ev.tally l m → 0 < p.2 := by
    intro l
    induction l with
    | nil => intro m h p hp; exact h p hp
    | cons w r ih =>
      intro m h p hp
      refine ih (incr m w) (fun q hq => ?_) p hp
      have g0 : 0 ≤ getC w.act m := by
        unfold getC
        cases e : getI w.act m with
        | none => exact Int.le_refl _
        | some x => exact Int.le_of_lt (h _ (getI_some e))
      have key : ∀ (j v : Int), 0 < v → ∀ (m : List (Int × Int)), (∀ p, p ∈ m → 0 < p.2) → ∀ q, q ∈ setI j v m → 0 < q.2 := by
        intro j v hv m
        induction m with
        | nil => intro _ q hq; simp [setI] at hq; subst hq; exact hv
        | cons c r ih =>
          obtain ⟨i, x⟩ := c
          intro h q hq
          simp only [setI] at hq
          cases e : eqI j i with
          | true =>
            rw [e] at hq
            rcases List.mem_cons.1 hq with rfl | hq
            · exact hv
            · exact h q (List.mem_cons_of_mem _ hq)
          | false =>
            rw [e] at hq
            rcases List.mem_cons.1 hq with rfl | hq
            · exact h _ (List.mem_cons_self ..)
            · exact ih (fun p hp => h p (List.mem_cons_of_mem _ hp)) q hq
      exact key _ _ (by omega) m h q hq
  constructor
  · intro h
    have e := Keys.get hk h
    have h1 := pos ws [] (by simp) _ h
    unfold getC at hc
    rw [e] at hc
    simp at hc
    exact ⟨by rw [← hc], h1⟩
  · rintro ⟨e, h⟩
    cases e
    unfold getC at hc
    cases e : getI k (Ev.tally ws []) with
    | none => rw [e] at hc; simp at hc; omega
    | some x => rw [e] at hc; simp at hc; subst hc; exact getI_some e

/-- Lists that rise strictly are known by their members. -/
def Rise (l : List PPair) : Prop := l.Pairwise (fun x y => x.a < y.a)
theorem Rise.unique : ∀ {l m : List PPair}, Rise l → Rise m → (∀ p, p ∈ l ↔ p ∈ m) → l = m
  | [], [], _, _, _ => rfl
  | [], y :: m, _, _, h => absurd ((h y).2 (List.mem_cons_self ..)) (by simp)
  | x :: l, [], _, _, h => absurd ((h x).1 (List.mem_cons_self ..)) (by simp)
  | x :: l, y :: m, hl, hm, h => by
    have hl' := List.pairwise_cons.1 hl
    have hm' := List.pairwise_cons.1 hm
    have e : x = y := by
      rcases List.mem_cons.1 ((h x).1 (List.mem_cons_self ..)) with e | e
      · exact e
      rcases List.mem_cons.1 ((h y).2 (List.mem_cons_self ..)) with e2 | e2
      · exact e2.symm
      · have := hm'.1 _ e; have := hl'.1 _ e2; omega
    subst e
    congr 1
    refine Rise.unique hl'.2 hm'.2 fun p => ?_
    constructor
    · intro hp
      rcases List.mem_cons.1 ((h p).1 (List.mem_cons_of_mem _ hp)) with e | e
      · subst e; have := hl'.1 _ hp; omega
      · exact e
    · intro hp
      rcases List.mem_cons.1 ((h p).2 (List.mem_cons_of_mem _ hp)) with e | e
      · subst e; have := hm'.1 _ hp; omega
      · exact e

/-- The counts, by act. -/
def pairOf (p : Int × Int) : PPair := ⟨p.1, p.2⟩
def sharesL (ws : List PWord) : List PPair := ((tally ws []).map pairOf).mergeSort fun x y => decide (x.a ≤ y.a)
theorem pairs_nodup {m : List (Int × Int)} (h : Keys m) : (m.map pairOf).Pairwise (fun x y => x.a ≠ y.a) := by
  unfold Keys at h
  rw [List.nodup_iff_pairwise_ne, List.pairwise_map] at h
  rw [List.pairwise_map]
  exact h
theorem rise_of {l : List PPair} (h1 : l.Pairwise (fun x y => x.a ≤ y.a)) (h2 : l.Pairwise (fun x y => x.a ≠ y.a)) : Rise l :=
  (h1.and h2).imp fun {x y} h => by obtain ⟨h, k⟩ := h; omega
theorem perm_ne {l m : List PPair} (h : l.Perm m) (hm : m.Pairwise (fun x y => x.a ≠ y.a)) : l.Pairwise (fun x y => x.a ≠ y.a) :=
  (h.pairwise_iff (fun {x y} h e => h e.symm)).2 hm
theorem shares_rise (ws : List PWord) : Rise (sharesL ws) := by
  refine rise_of ?_ (perm_ne (List.mergeSort_perm ..) (pairs_nodup (Keys.tally ws Keys.nil)))
  have := List.pairwise_mergeSort (le := fun (x y : PPair) => decide (x.a ≤ y.a)) (fun a b c h1 h2 => by simp at *; omega) (fun a b => by simp; omega) ((tally ws []).map pairOf)
  exact this.imp fun {x y} h => by simpa using h
theorem shares_mem {ws : List PWord} {p : PPair} : p ∈ sharesL ws ↔ p.b = cnt p.a ws ∧ 0 < p.b := by
  unfold sharesL
  rw [(List.mergeSort_perm _ _).mem_iff, List.mem_map]
  constructor
  · rintro ⟨⟨k, v⟩, h1, rfl⟩
    obtain ⟨e, h⟩ := tally_mem.1 h1
    cases e
    exact ⟨rfl, h⟩
  · rintro ⟨h1, h2⟩
    exact ⟨(p.a, p.b), tally_mem.2 ⟨by rw [h1], h2⟩, rfl⟩
/-- Whatever rises strictly and holds the same is that list. -/
theorem shares_eq {ws : List PWord} {l : List PPair} (h : Rise l) (hm : ∀ p, p ∈ l ↔ p.b = cnt p.a ws ∧ 0 < p.b) : l = sharesL ws :=
  h.unique (shares_rise ws) fun p => (hm p).trans shares_mem.symm
theorem shares_perm {ws : List PWord} {l m : List PPair} (h : l.Perm m) (hm : m.Perm ((tally ws []).map pairOf)) (hs : l.Pairwise (fun x y => x.a ≤ y.a)) : l = sharesL ws :=
  (rise_of hs (perm_ne (h.trans hm) (pairs_nodup (Keys.tally ws Keys.nil)))).unique (shares_rise ws) fun p => by
    rw [(h.trans hm).mem_iff, sharesL, (List.mergeSort_perm _ _).mem_iff]

/-- Places of a list, each once, all of them. -/
theorem nodup_bound : ∀ (n : Nat) (s : List Nat), s.Nodup → (∀ i, i ∈ s → i < n) → s.length ≤ n
  | 0, s, _, h => by
    cases s with
    | nil => exact Nat.le_refl _
    | cons x r => exact absurd (h x (List.mem_cons_self ..)) (by omega)
  | n + 1, s, hs, h => by
    have h1 := nodup_bound n (s.erase n) (hs.erase n) fun i hi => by
      have h2 := (hs.mem_erase_iff).1 hi
      have := h i h2.2
      have := h2.1
      omega
    have := List.length_erase (a := n) (l := s)
    split at this <;> omega
theorem all_perm {n : Nat} {s : List Nat} (hs : s.Nodup) (h : ∀ i, i ∈ s → i < n) (hd : ∀ i, i < n → i ∈ s) : s.Perm (List.range n) :=
  (List.perm_ext_iff_of_nodup hs List.nodup_range).2 fun i => ⟨fun hi => List.mem_range.2 (h i hi), fun hi => hd i (List.mem_range.1 hi)⟩
theorem range_map {α : Type} [Inhabited α] (l : List α) : (List.range l.length).map (gD l) = l := by
  refine List.ext_getElem (by simp) fun i h1 h2 => ?_
  simp [gD, List.getD, List.getElem?_eq_getElem h2]
theorem nodup_snoc {s : List Nat} {i : Nat} (h : s.Nodup) (hi : ¬ i ∈ s) : (s ++ [i]).Nodup := by
  rw [List.nodup_append]
  exact ⟨h, by simp, fun a ha b hb e => by simp at hb; subst hb; subst e; exact hi ha⟩
/- Trees of little weight. -/
mutual
def okU : TUnit → Prop
  | ⟨_, _, _, _, _, h, w, ks⟩ => h.length ≤ 300 ∧ w.length ≤ 300 ∧ ks.length ≤ 60 ∧ okUs ks
def okUs : List TUnit → Prop
  | [] => True
  | k :: r => okU k ∧ okUs r
end
theorem okUs_iff : ∀ {l : List TUnit}, okUs l ↔ ∀ u, u ∈ l → okU u
  | [] => by rw [okUs]; simp
  | k :: r => by rw [okUs, okUs_iff]; simp
theorem okU_iff {u : TUnit} : okU u ↔ u.head.length ≤ 300 ∧ u.words.length ≤ 300 ∧ u.kids.length ≤ 60 ∧ ∀ k, k ∈ u.kids → okU k := by
  obtain ⟨a, b, c, d, e, h, w, ks⟩ := u
  rw [okU, okUs_iff]; exact Iff.rfl
theorem look_getC (m : List (Int × Int)) (k : Int) : lookupE (some (.int .i64 0)) false (findEnt false 1 [(0, 1)] (.int .i64 k) (entsI encInt m 0) 0) = some (.int .i64 (getC k m)) := by
  rw [look_entsI]
  unfold getC
  cases getI k m <;> rfl
section
variable {u w' : TUnit} {ws : List PWord} {w : PWord} {r : List PWord} {ks : List TUnit} {m x : List (Int × Int)} {c B : Int}
theorem tally_start (hm : ∀ k, 0 ≤ getC k m ∧ getC k m + Int.ofNat (wordsOf u ++ allWs u.kids).length ≤ B) :
    tally (wordsOf u) m = tally (wordsOf u) m ∧ ∀ k, 0 ≤ getC k m ∧ getC k m + (Int.ofNat (wordsOf u).length + Int.ofNat (allWs u.kids).length) ≤ B :=
  ⟨rfl, fun k => ⟨(hm k).1, by have := (hm k).2; simp only [List.length_append, Int.ofNat_eq_natCast] at *; omega⟩⟩
theorem tally_step (h : tally ws m = tally (w :: r) x ∧ ∀ k, 0 ≤ getC k x ∧ getC k x + (Int.ofNat (w :: r).length + c) ≤ B) :
    tally ws m = tally r (setI w.act (getC w.act x + 1) x) ∧ ∀ k, 0 ≤ getC k (setI w.act (getC w.act x + 1) x) ∧ getC k (setI w.act (getC w.act x + 1) x) + (Int.ofNat r.length + c) ≤ B :=
  ⟨h.1, fun k => by
    have h1 := h.2 k
    have h2 := h.2 w.act
    rw [getC_set]
    simp only [List.length_cons, Int.ofNat_eq_natCast] at *
    split
    · omega
    · omega⟩
theorem tally_q {ks : List PWord} (h : tally ws m = tally (w :: r) x ∧ ∀ k, 0 ≤ getC k x ∧ getC k x + (Int.ofNat (w :: r).length + Int.ofNat ks.length) ≤ 2 ^ 50) : 0 ≤ getC w.act x ∧ getC w.act x < 2 ^ 51 := by
  have := h.2 w.act
  simp only [Int.ofNat_eq_natCast] at *; omega
theorem tally_mid (h : tally (wordsOf u) m = tally [] x ∧ ∀ k, 0 ≤ getC k x ∧ getC k x + (Int.ofNat ([] : List PWord).length + Int.ofNat (allWs u.kids).length) ≤ B) :
    tally (allW u) m = tally (allWs u.kids) x ∧ ∀ k, 0 ≤ getC k x ∧ getC k x + Int.ofNat (allWs u.kids).length ≤ B :=
  ⟨by rw [allW_eq, tally_append, h.1]; rfl, fun k => ⟨(h.2 k).1, by have := (h.2 k).2; simp only [List.length_nil, Int.ofNat_eq_natCast] at *; omega⟩⟩
theorem tally_pre (h : tally (allW u) m = tally (allWs (w' :: ks)) x ∧ ∀ k, 0 ≤ getC k x ∧ getC k x + Int.ofNat (allWs (w' :: ks)).length ≤ B) : ∀ k, 0 ≤ getC k x ∧ getC k x + Int.ofNat (allW w').length ≤ B := fun k => by
  have := h.2 k
  rw [allWs_cons] at this
  simp only [List.length_append, Int.ofNat_eq_natCast] at *; omega
theorem tally_kid (h : tally (allW u) m = tally (allWs (w' :: ks)) x ∧ ∀ k, 0 ≤ getC k x ∧ getC k x + Int.ofNat (allWs (w' :: ks)).length ≤ B) :
    tally (allW u) m = tally (allWs ks) (tally (allW w') x) ∧ ∀ k, 0 ≤ getC k (tally (allW w') x) ∧ getC k (tally (allW w') x) + Int.ofNat (allWs ks).length ≤ B :=
  ⟨by rw [h.1, allWs_cons, tally_append], fun k => by
    have h1 := h.2 k
    have h2 := cnt_le k (allW w')
    rw [getC_tally]
    rw [allWs_cons] at h1
    simp only [List.length_append, Int.ofNat_eq_natCast] at *; omega⟩
end

/-- A slice without contents is nil or not. -/
theorem VRel.ls0 {pl : Pl} {M : Mem} {x : Value} (h : VRel pl M (.ls []) x) : VRel pl M .nils x ∨ VRel pl M (.ps [] false) x := by
  cases h with
  | lsn => exact .inl .nils
  | lsp h _ => exact .inr h
theorem VRel.agg0 {pl : Pl} {M : Mem} {pre post : List AV} {x : Value} (h : VRel pl M (.agg (pre ++ .ls [] :: post)) x) : VRel pl M (.agg (pre ++ .nils :: post)) x ∨ VRel pl M (.agg (pre ++ .ps [] false :: post)) x := by
  have h' := h
  cases h' with
  | agg h1 h2 h3 =>
    rcases (h3 pre.length (.ls []) (by simp)).ls0 with k | k
    · left
      refine .agg (by simpa using h1) (fun y hy => ?_) fun j y hj => ?_
      · rcases List.mem_append.1 hy with hy | hy
        · exact h2 y (List.mem_append_left _ hy)
        · rcases List.mem_cons.1 hy with rfl | hy
          · rfl
          · exact h2 y (List.mem_append_right _ (List.mem_cons_of_mem _ hy))
      · by_cases e : j = pre.length
        · subst e; simp at hj; subst hj; exact k
        · refine h3 j y ?_
          by_cases e2 : j < pre.length
          · rwa [List.getElem?_append_left e2] at hj ⊢
          · rw [List.getElem?_append_right (by omega)] at hj ⊢
            obtain ⟨m, hm⟩ : ∃ m, j - pre.length = m + 1 := ⟨j - pre.length - 1, by omega⟩
            rw [hm] at hj ⊢
            simpa using hj
    · right
      refine .agg (by simpa using h1) (fun y hy => ?_) fun j y hj => ?_
      · rcases List.mem_append.1 hy with hy | hy
        · exact h2 y (List.mem_append_left _ hy)
        · rcases List.mem_cons.1 hy with rfl | hy
          · rfl
          · exact h2 y (List.mem_append_right _ (List.mem_cons_of_mem _ hy))
      · by_cases e : j = pre.length
        · subst e; simp at hj; subst hj; exact k
        · refine h3 j y ?_
          by_cases e2 : j < pre.length
          · rwa [List.getElem?_append_left e2] at hj ⊢
          · rw [List.getElem?_append_right (by omega)] at hj ⊢
            obtain ⟨m, hm⟩ : ∃ m, j - pre.length = m + 1 := ⟨j - pre.length - 1, by omega⟩
            rw [hm] at hj ⊢
            simpa using hj
/-- Arguments, case by case. -/
theorem HCall.either {P : Program} {G : Env} {f : FuncId} {a b c : List AV} {h : AHeap} {Ψ : AV → AHeap → Prop} (hs : ∀ pl M vs, VRels pl M c vs → VRels pl M a vs ∨ VRels pl M b vs) (h1 : HCall P G f a h Ψ) (h2 : HCall P G f b h Ψ) : HCall P G f c h Ψ :=
  fun pl M w vs hg hr hv => (hs pl M vs hv).elim (h1 pl M w vs hg hr) (h2 pl M w vs hg hr)
theorem VRels.first {pl : Pl} {M : Mem} {x y z : AV} {r : List AV} {vs : Array Value} (h : VRels pl M (z :: r) vs) (hs : ∀ v, VRel pl M z v → VRel pl M x v ∨ VRel pl M y v) : VRels pl M (x :: r) vs ∨ VRels pl M (y :: r) vs := by
  obtain ⟨h1, h2⟩ := h
  have lift : ∀ u, VRel pl M u (vs.getD 0 undef) → VRels pl M (u :: r) vs := fun u hu => ⟨h1, fun j y hj => by
    cases j with
    | zero => simp at hj; subst hj; exact hu
    | succ j => exact h2 (j + 1) y (by simpa using hj)⟩
  exact (hs _ (h2 0 z rfl)).imp (lift x) (lift y)
/-- A function of a structure with a slice without contents: nil, and not nil. -/
theorem HPure.agg0 {P : Program} {G : Env} {f : FuncId} {pre post r : List AV} {v : AV} (h1 : HPure P G f (.agg (pre ++ .nils :: post) :: r) v) (h2 : HPure P G f (.agg (pre ++ .ps [] false :: post) :: r) v) : HPure P G f (.agg (pre ++ .ls [] :: post) :: r) v :=
  fun h => HCall.either (fun _ _ _ hv => VRels.first hv fun _ hv => hv.agg0) (h1 h) (h2 h)

end Go.Ev

/- Counts by act, out of a map or one after the other. -/
namespace Go.Ev
open Go

theorem small_le {n b m : Nat} (h1 : n ≤ m) (h2 : m ≤ 2 ^ 40) (h3 : m * b ≤ 2 ^ 40) : small n b = true := by
  unfold small
  have h4 : n * b ≤ m * b := Nat.mul_le_mul_right b h1
  simp only [Bool.and_eq_true]
  exact ⟨Nat.ble_eq_true_of_le (Nat.le_trans h1 h2), Nat.ble_eq_true_of_le (Nat.le_trans h4 h3)⟩

def pairCmp (p q : PPair) : Int := bif ltI p.a q.a then -1 else 1
theorem pairCmp_lt (p q : PPair) : decide (pairCmp p q < 0) = ltI p.a q.a := by
  unfold pairCmp
  cases ltI p.a q.a <;> rfl

/-- The pairs that a range over the map has laid down, sorted. -/
theorem shares_out {ws : List PWord} {M : List (Int × Int)} {l' out : List PPair} {seen : List Nat} (hM : tally ws [] = M) (h1 : l'.Perm out) (h2 : l'.Pairwise fun x y => x.a ≤ y.a)
    (h3 : out = seen.map fun i => pairOf (gD M i)) (hn : seen.Nodup) (hb : ∀ i, i ∈ seen → i < M.length) (hd : ∀ i, i < M.length → i ∈ seen) : l' = sharesL ws := by
  subst hM
  refine shares_perm h1 ?_ h2
  have h4 := (all_perm hn hb hd).map fun i => pairOf (gD (tally ws []) i)
  rw [h3]
  refine h4.trans (.of_eq ?_)
  have := congrArg (List.map pairOf) (range_map (tally ws []))
  rw [List.map_map] at this
  exact this
theorem shares_none {ws : List PWord} {M : List (Int × Int)} (hM : tally ws [] = M) (hd : ∀ i, i < M.length → i ∈ ([] : List Nat)) : sharesL ws = [] := by
  have e : M = [] := by
    cases M with
    | nil => rfl
    | cons x r => exact absurd (hd 0 (Nat.zero_lt_succ _)) (by simp)
  unfold sharesL
  rw [hM, e]
  simp
theorem setI_lenB (j v : Int) (m : List (Int × Int)) : (setI j v m).length ≤ m.length + 1 := by
  have := congrArg List.length (setI_keys j v m)
  rw [List.length_map] at this
  rw [this]
  split <;> simp
theorem tally_len0 : ∀ (ws : List PWord) (m : List (Int × Int)), (tally ws m).length ≤ m.length + ws.length
  | [], _ => Nat.le_refl _
  | w :: r, m => by
    have h1 := tally_len0 r (incr m w)
    have h2 : (incr m w).length ≤ m.length + 1 := setI_lenB ..
    rw [tally_cons]
    simp only [List.length_cons]; omega
theorem tally_len {ws : List PWord} {n : Nat} (h : ws.length ≤ n) : (tally ws []).length ≤ n := by
  have := tally_len0 ws []
  simp only [List.length_nil] at this; omega
theorem seen_len {seen : List Nat} {i n : Nat} (hn : seen.Nodup) (hb : ∀ i, i ∈ seen → i < n) (hi : i < n) (hs : ¬ i ∈ seen) : seen.length < n := by
  have := nodup_bound n (seen ++ [i]) (nodup_snoc hn hs) (fun j hj => by
    rcases List.mem_append.1 hj with h | h
    · exact hb j h
    · simp at h; omega)
  simp at this
  omega

def putZ (d : Int) : List Int → List Int
  | [] => [d]
  | x :: r => bif ltI x d then x :: putZ d r else bif eqI x d then x :: r else d :: x :: r
theorem putZ_len (d : Int) : ∀ (l : List Int), (putZ d l).length ≤ l.length + 1
  | [] => Nat.le_refl _
  | x :: r => by
    unfold putZ
    have := putZ_len d r
    cases ltI x d <;> cases eqI x d <;> simp only [cond_true, cond_false, List.length_cons] <;> omega
theorem putZ_mem (d k : Int) : ∀ (l : List Int), k ∈ putZ d l ↔ k = d ∨ k ∈ l
  | [] => by simp [putZ]
  | x :: r => by
    unfold putZ
    cases h1 : ltI x d
    · cases h2 : eqI x d
      · simp
      · have := eqI_t h2
        subst this
        simp
    · simp only [cond_true, List.mem_cons, putZ_mem d k r]
      constructor
      · rintro (h | h | h) <;> simp [h]
      · rintro (h | h | h) <;> simp [h]
theorem putZ_rise (d : Int) : ∀ {l : List Int}, l.Pairwise (· < ·) → (putZ d l).Pairwise (· < ·)
  | [], _ => by simp [putZ]
  | x :: r, h => by
    unfold putZ
    cases h1 : ltI x d
    · cases h2 : eqI x d
      · have a1 := ltI_false h1
        have a2 := eqI_f h2
        simp only [cond_false]
        refine List.pairwise_cons.2 ⟨fun y hy => ?_, h⟩
        rcases List.mem_cons.1 hy with rfl | hy
        · omega
        · have := (List.pairwise_cons.1 h).1 y hy; omega
      · simpa using h
    · simp only [cond_true]
      obtain ⟨q1, q2⟩ := List.pairwise_cons.1 h
      refine List.pairwise_cons.2 ⟨fun y hy => ?_, putZ_rise d q2⟩
      rcases (putZ_mem d y r).1 hy with rfl | hy
      · exact ltI_true h1
      · exact q1 y hy
theorem gD_cons0 {α : Type} [Inhabited α] (x : α) (r : List α) : gD (x :: r) 0 = x := rfl
theorem gD_consS {α : Type} [Inhabited α] (x : α) (r : List α) (i : Nat) : gD (x :: r) (i + 1) = gD r i := rfl
theorem putZ_new {d : Int} : ∀ {l : List Int} {i : Nat}, (∀ j, j < i → gD l j < d) → i ≤ l.length → (i < l.length → d < gD l i) → putZ d l = l.take i ++ d :: l.drop i
  | [], i, _, hi, _ => by
    have : i = 0 := by simpa using hi
    subst this; rfl
  | x :: r, 0, _, _, h => by
    have h := h (Nat.zero_lt_succ _)
    rw [gD_cons0] at h
    unfold putZ
    rw [ltI_f (by omega), show eqI x d = false from by rw [eqI_iff]; exact decide_eq_false (by omega)]
    rfl
  | x :: r, i + 1, hj, hi, h => by
    have h0 := hj 0 (Nat.zero_lt_succ _)
    rw [gD_cons0] at h0
    unfold putZ
    rw [ltI_t h0, putZ_new (l := r) (i := i) (fun j q => by simpa [gD_consS] using hj (j + 1) (by omega)) (by simpa using hi) (fun q => by simpa [gD_consS] using h (by simpa using q))]
    rfl
theorem putZ_same {d : Int} : ∀ {l : List Int} {i : Nat}, (∀ j, j < i → gD l j < d) → i < l.length → gD l i = d → putZ d l = l
  | [], i, _, hi, _ => absurd hi (Nat.not_lt_zero _)
  | x :: r, 0, _, _, h => by
    rw [gD_cons0] at h
    unfold putZ
    rw [ltI_f (by omega), show eqI x d = true from by rw [eqI_iff]; exact decide_eq_true h]
    rfl
  | x :: r, i + 1, hj, hi, h => by
    have h0 := hj 0 (Nat.zero_lt_succ _)
    rw [gD_cons0] at h0
    unfold putZ
    rw [ltI_t h0, putZ_same (l := r) (i := i) (fun j q => by simpa [gD_consS] using hj (j + 1) (by omega)) (by simpa using hi) (by simpa [gD_consS] using h)]
    rfl
theorem below_step {l : List Int} {i : Nat} {d : Int} (h : ∀ j, j < i → gD l j < d) (h1 : gD l i < d) : ∀ j, j < i + 1 → gD l j < d := fun j hj => by
  rcases Nat.lt_or_ge j i with q | q
  · exact h j q
  · have : j = i := by omega
    subst this; exact h1

def actsL (ws : List PWord) (l : List Int) : List Int := ws.foldl (fun l w => putZ w.act l) l
theorem actsL_cons (w : PWord) (ws : List PWord) (l : List Int) : actsL (w :: ws) l = actsL ws (putZ w.act l) := rfl
theorem actsL_rise : ∀ (ws : List PWord) {l : List Int}, l.Pairwise (· < ·) → (actsL ws l).Pairwise (· < ·)
  | [], _, h => h
  | w :: r, _, h => actsL_rise r (putZ_rise w.act h)
theorem cnt_cons (k : Int) (w : PWord) (r : List PWord) : cnt k (w :: r) = (bif eqI w.act k then 1 else 0) + cnt k r := by
  rw [cnt]; cases eqI w.act k <;> rfl
theorem actsL_mem (k : Int) : ∀ (ws : List PWord) (l : List Int), k ∈ actsL ws l ↔ k ∈ l ∨ 0 < cnt k ws
  | [], l => by simp [actsL, cnt]
  | w :: r, l => by
    rw [actsL_cons, actsL_mem k r, putZ_mem, cnt_cons]
    have h0 := (cnt_le k r).1
    cases h : eqI w.act k
    · have := eqI_f h
      simp only [cond_false, Int.zero_add]
      constructor
      · rintro ((h | h) | h)
        · exact absurd h.symm this
        · exact .inl h
        · exact .inr h
      · rintro (h | h)
        · exact .inl (.inr h)
        · exact .inr h
    · have := eqI_t h
      simp only [cond_true]
      exact ⟨fun _ => .inr (by omega), fun _ => .inl (.inl this.symm)⟩
def shareL (ws : List PWord) : List PPair := (actsL ws []).map fun k => ⟨k, cnt k ws⟩
theorem share_ok (ws : List PWord) : shareL ws = sharesL ws := by
  refine shares_eq ?_ fun p => ?_
  · unfold shareL Rise
    exact List.pairwise_map.2 (actsL_rise ws List.Pairwise.nil)
  · unfold shareL
    rw [List.mem_map]
    constructor
    · rintro ⟨k, h1, rfl⟩
      exact ⟨rfl, by simpa using (actsL_mem k ws []).1 h1⟩
    · rintro ⟨h1, h2⟩
      refine ⟨p.a, (actsL_mem p.a ws []).2 (.inr (by omega)), ?_⟩
      obtain ⟨a, b⟩ := p
      simp only at h1 ⊢
      rw [h1]
theorem actsL_len : ∀ (ws : List PWord) (l : List Int), (actsL ws l).length ≤ l.length + ws.length
  | [], l => by simp [actsL]
  | w :: r, l => by
    rw [actsL_cons]
    have h1 := actsL_len r (putZ w.act l)
    have h2 := putZ_len w.act l
    simp only [List.length_cons]; omega
end Go.Ev

/- What has been drawn never falls: a step of the machine draws no less. -/
namespace Go.Ev
open Go

def resW {α : Type} : Result α → World
  | .ok _ w => w
  | .halt _ w => w
def gW : GStep → World
  | .go _ w _ => w
  | .comm _ _ _ _ w _ => w
  | .spawn _ _ w _ => w
  | .count _ w _ => w
  | .timer _ _ w _ => w
  | .alone _ _ w _ => w
  | .newcoro _ _ _ w _ => w
  | .coroswitch _ _ _ w _ => w
  | .collect _ w _ => w
  | .watch _ w _ => w
  | .ended _ w _ => w
theorem gW_after (es : Array Event) (g : GStep) : gW (GStep.after es g) = gW g := by cases g <;> rfl

theorem ask_le {α : Type} : ∀ (q : Ask α) (w : World), w.drawn ≤ (w.ask q).2.drawn
  | .done a, w => Nat.le_refl _
  | .ask what range k, w => by
    rw [World.ask]
    split
    · exact ask_le (k 0) w
    · exact Nat.le_trans (Nat.le_succ _) (ask_le _ { w with drawn := w.drawn + 1 })
theorem sys_le (w : World) (c : Sys) : w.drawn ≤ (w.sys c).2.drawn := by
  unfold World.sys
  have h := ask_le (Kernel.perform c w.os) w
  split
  · exact Nat.le_refl _
  · rename_i e; rw [e] at h; exact h
theorem viewStore_drawn {p : Program} {w w' : World} {at_ : Addr} {u : TypeId} {k : Addr} {v : Value} {b : Bool} {l : List Addr} (h : w.viewStore p at_ u k v b = .ok (w', l)) : w'.drawn = w.drawn := by
  unfold World.viewStore at h
  simp only [bind, Except.bind, pure, Except.pure] at h
  repeat' split at h
  all_goals first | cases h; done | (injection h with h; injection h with h1 h2; rw [← h1])
theorem farStore_drawn {p : Program} {w w' : World} {a : Addr} {v : Value} {b : Bool} {l : List Addr} (h : w.farStore p a v b = .ok (w', l)) : w'.drawn = w.drawn := by
  unfold World.farStore at h
  repeat' split at h
  all_goals first | cases h; done | (cases h; rename_i e; exact viewStore_drawn e)
theorem freeze_drawn (w : World) (a : Addr) (n : Nat) : (w.freeze a n).drawn = w.drawn := by unfold World.freeze; split <;> rfl
theorem run_le (p : Program) {α : Type} (s : Sem α) : ∀ (w : World), w.drawn ≤ (resW (s.run p w)).drawn := by
  induction s with
  | pure a => exact fun w => Nat.le_refl _
  | load m a k ih =>
    intro w
    simp only [Sem.run]
    repeat' split
    all_goals first | exact ih _ _ | exact Nat.le_refl _
  | store m a v k ih =>
    intro w
    cases v
    all_goals simp only [Sem.run]
    all_goals first
      | exact Nat.le_refl _
      | (repeat' split
         all_goals first | exact Nat.le_refl _ | exact ih (w.setCell _ _) | (rename_i e; refine Nat.le_trans ?_ (ih _); rw [farStore_drawn e]; exact Nat.le_refl _))
  | new o k ih => intro w; simp only [Sem.run]; exact ih w.heap.size { w with heap := w.heap.push o }
  | shape r k ih => intro w; simp only [Sem.run]; exact ih _ _
  | freeze a n k ih => intro w; simp only [Sem.run]; refine Nat.le_trans ?_ (ih _); rw [freeze_drawn]; exact Nat.le_refl _
  | frozen a k ih => intro w; simp only [Sem.run]; exact ih _ _
  | getObj r k ih =>
    intro w
    simp only [Sem.run]
    repeat' split
    all_goals first | exact ih _ _ | exact Nat.le_refl _
  | setObj r o k ih =>
    intro w
    simp only [Sem.run]
    repeat' split
    all_goals first | exact ih { w with heap := w.heap.setIfInBounds r o } | exact Nat.le_refl _
  | choose q k ih =>
    intro w
    simp only [Sem.run]
    split
    · exact ih _ _
    · exact Nat.le_trans (Nat.le_succ _) (ih _ { w with drawn := w.drawn + 1 })
  | sys c k ih => intro w; simp only [Sem.run]; exact Nat.le_trans (sys_le w c) (ih _ _)
  | program k ih => intro w; simp only [Sem.run]; exact ih _ _
  | mark m k ih => intro w; simp only [Sem.run]; exact ih _
  | halt h => exact fun w => Nat.le_refl _
theorem run_le' {p : Program} {α : Type} {s : Sem α} {w : World} {r : Result α} (h : s.run p w = r) : w.drawn ≤ (resW r).drawn := h ▸ run_le p s w
theorem runT_le {p : Program} {α : Type} {s : Sem α} {w : World} {es es' : Array Event} {r : Result α} (h : s.runT p w es = (r, es')) : w.drawn ≤ (resW r).drawn := by
  have := Sem.runT_fst p s w es
  rw [h] at this
  exact run_le' this.symm

theorem endWith_le (w : World) (fd : Nat) (text : ByteArray) (o : Outcome) : w.drawn ≤ (gW (endWith w fd text o)).drawn := by
  unfold endWith
  simp only []
  have h := sys_le w (.write fd text)
  split
  all_goals (rename_i e; rw [e] at h)
  all_goals repeat' split
  all_goals exact h
theorem endThrow_le (fr : Frame) (m : String) (w : World) : w.drawn ≤ (gW (endThrow fr m w)).drawn := Nat.le_refl _
theorem endPrinting_le (p : Program) (fr : Frame) (v : Value) (w : World) : w.drawn ≤ (gW (endPrinting p fr v w)).drawn := by
  unfold endPrinting
  simp only []
  repeat' split
  all_goals exact Nat.le_refl _
theorem endFatal_le (p : Program) (fr : Frame) (cs : List Frame) (d : Option Dying) (m : String) (w : World) : w.drawn ≤ (gW (endFatal p fr cs d m w)).drawn := by
  unfold endFatal
  simp only []
  split
  all_goals (rename_i e; exact run_le' e)
theorem writeOn_le (p : Program) (fr : Frame) (d : Dying) (f : Fatal) (w : World) : w.drawn ≤ (gW (writeOn p fr d f w)).drawn := by
  unfold writeOn
  split
  · exact Nat.le_refl _
  · simp only []
    split
    all_goals (rename_i e; exact runT_le e)
theorem die_le (p : Program) (fr : Frame) (d : Dying) (w : World) : w.drawn ≤ (gW (die p fr d w)).drawn := by
  unfold die
  split
  · exact writeOn_le ..
  · split
    · split
      · exact Nat.le_refl _
      · exact endWith_le ..
    · simp only []
      split
      · exact Nat.le_refl _
      · split
        all_goals (rename_i e; exact run_le' e)
      · rw [gW_after]
        split
        all_goals first | (rename_i e; exact run_le' ((Sem.runT_fst ..).symm.trans e)) | skip
        · rename_i e; exact Nat.le_trans (run_le' ((Sem.runT_fst ..).symm.trans e)) (endPrinting_le ..)
        · exact Nat.le_refl _
      · exact Nat.le_refl _
theorem doReturn_le (p : Program) (main : Bool) (fr : Frame) (cs : List Frame) (d : Option Dying) (v : Value) (w : World) : w.drawn ≤ (gW (doReturn p main fr cs d v w)).drawn := by
  unfold doReturn
  repeat' split
  all_goals exact Nat.le_refl _


theorem ite_gW {c : Prop} [Decidable c] {a b : GStep} {n : Nat} (h1 : n ≤ (gW a).drawn) (h2 : n ≤ (gW b).drawn) : n ≤ (gW (if c then a else b)).drawn := by split <;> assumption
theorem callDeferred_le (p : Program) (fr : Frame) (cs : List Frame) (dy : Option Dying) (d : Deferred) (w : World) : w.drawn ≤ (gW (callDeferred p fr cs dy d w)).drawn := by
  unfold callDeferred
  refine ite_gW ?_ ?_
  · exact Nat.le_refl _
  · simp only []
    rw [gW_after]
    split
    all_goals (rename_i e; have h := run_le' ((Sem.runT_fst ..).symm.trans e))
    all_goals first | exact h | exact Nat.le_trans h (endFatal_le ..) | ((repeat' split) <;> exact h)
theorem unwind_le (p : Program) (main : Bool) (fr : Frame) (cs : List Frame) (dy : Option Dying) (w : World) : w.drawn ≤ (gW (unwind p main fr cs dy w)).drawn := by
  unfold unwind
  split
  · simp only []
    rw [gW_after]
    split
    all_goals (rename_i e; exact run_le' ((Sem.runT_fst ..).symm.trans e))
  · exact callDeferred_le ..
  · split
    · exact Nat.le_refl _
    · split
      · exact Nat.le_refl _
      · split
        · exact Nat.le_refl _
        · split
          · split
            · exact Nat.le_refl _
            · split
              all_goals (rename_i e; exact run_le' e)
          · split
            · exact endPrinting_le ..
            · exact Nat.le_refl _
    · split
      · exact doReturn_le ..
      · simp only []
        rw [gW_after]
        split
        all_goals (rename_i e; have h := run_le' ((Sem.runT_fst ..).symm.trans e))
        all_goals first | exact h | exact Nat.le_trans h (doReturn_le ..)
theorem early_le (p : Program) (fr : Frame) (cs : List Frame) (dy : Option Dying) (g : Nat) (w : World) : w.drawn ≤ (gW (early p fr cs dy g w)).drawn := by
  unfold early
  simp only []
  repeat' split
  all_goals first | exact Nat.le_refl _ | (rename_i e; exact run_le' e) | (rename_i e _; exact run_le' e) | (rename_i e _ _; exact run_le' e) | (rename_i e _ _ _ _; exact run_le' e)
theorem apply_le (p : Program) (listen : Bool) (fr : Frame) (cs : List Frame) (dy : Option Dying) (s : Sem Next) (w : World) : w.drawn ≤ (gW (stepG.apply p listen fr cs dy s w)).drawn := by
  unfold stepG.apply
  simp only []
  rw [gW_after]
  have h0 : w.drawn ≤ (resW (if listen = true then Sem.runT p s w #[] else (Sem.run p s w, #[])).fst).drawn := by
    cases listen
    · exact run_le ..
    · exact run_le' (Sem.runT_fst ..).symm
  generalize (if listen = true then Sem.runT p s w #[] else (Sem.run p s w, #[])).fst = r at h0 ⊢
  split
  all_goals first | exact h0 | exact Nat.le_trans h0 (endFatal_le ..) | exact Nat.le_trans h0 (early_le ..) | exact Nat.le_trans h0 (endThrow_le ..) | skip
  all_goals repeat' split
  all_goals first | exact h0 | exact Nat.le_trans h0 (endThrow_le ..) | skip
theorem oper_le (p : Program) (listen : Bool) (fr : Frame) (cs : List Frame) (dy : Option Dying) (w : World) : w.drawn ≤ (gW (stepG.oper p listen fr cs dy w)).drawn := by
  unfold stepG.oper
  split
  · exact Nat.le_refl _
  · split
    all_goals exact apply_le ..
theorem exec_le (p : Program) (main listen : Bool) (fr : Frame) (cs : List Frame) (dy : Option Dying) (w : World) : w.drawn ≤ (gW (stepG.exec p main listen fr cs dy w)).drawn := by
  have lv : ∀ (l : Nat) (jump : Option Code), w.drawn ≤ (gW (GStep.after (seen p fr.fn ((Instr.endRound l jump).runT p w #[]).snd) (match ((Instr.endRound l jump).runT p w #[]).fst with | .ok v w => doReturn p main fr cs dy v w | .halt _ w => .ended (.stuck "range over a function: no such loop" (fr.pos p)) w))).drawn := by
    intro l jump
    rw [gW_after]
    have h0 := run_le' (Sem.runT_fst p (Instr.endRound l jump) w #[]).symm
    split
    all_goals (rename_i e; rw [e] at h0)
    · exact Nat.le_trans h0 (doReturn_le ..)
    · exact h0
  unfold stepG.exec
  simp only []
  split
  all_goals first | exact Nat.le_refl _ | exact apply_le .. | skip
  · split
    · exact ite_gW (Nat.le_refl _) (Nat.le_refl _)
    · exact lv _ _
  · split
    · exact ite_gW (Nat.le_refl _) (Nat.le_refl _)
    · exact lv _ _
  · split <;> exact Nat.le_refl _
  · rename_i id k _
    cases exitTo id k with
    | none => simp only [Option.elim]; split; exact ite_gW (Nat.le_refl _) (Nat.le_refl _); exact lv _ _
    | some k' => exact Nat.le_refl _
  · rename_i id k _
    cases gotoIn id k with
    | none => simp only [Option.elim]; split; exact ite_gW (Nat.le_refl _) (Nat.le_refl _); exact lv _ _
    | some k' => exact Nat.le_refl _
  · rw [gW_after]
    split
    · rename_i e; exact Nat.le_trans (run_le' ((Sem.runT_fst ..).symm.trans e)) (apply_le ..)
    · rename_i e; exact run_le' ((Sem.runT_fst ..).symm.trans e)
  · rw [gW_after]
    split <;> rename_i e <;> exact run_le' ((Sem.runT_fst ..).symm.trans e)
  · rename_i row _ _ _
    cases Extern.next row with
    | none => exact Nat.le_refl _
    | some e => exact apply_le ..
  · refine ite_gW (Nat.le_refl _) ?_
    split <;> rename_i e <;> exact run_le' e
  · exact ite_gW (oper_le ..) (Nat.le_refl _)
theorem stepG_le (p : Program) (main listen : Bool) (g : Goroutine) (w : World) : w.drawn ≤ (gW (stepG p main g w listen)).drawn := by
  unfold stepG
  simp only []
  split
  · exact die_le ..
  · exact exec_le ..
  · exact unwind_le ..


def sD (n : Nat) : Stepped → Prop
  | .next m => n ≤ m.world.drawn
  | .ended _ _ => True
theorem sD.trans {n k : Nat} {s : Stepped} (h : n ≤ k) (g : sD k s) : sD n s := by
  cases s with
  | next m => exact Nat.le_trans h g
  | ended o w => trivial
theorem ite_sW {c : Prop} [Decidable c] {a b : Stepped} {n : Nat} (h1 : sD n a) (h2 : sD n b) : sD n (if c then a else b) := by split <;> assumption
theorem look_le (p : Program) (gs : Array Goroutine) (rest : Rest) (w : World) : sD w.drawn (look p gs rest w) := by
  unfold look
  simp only []
  split
  · refine ite_sW trivial ?_
    split
    · trivial
    · split <;> rename_i e <;> first | exact run_le' e | trivial
  · trivial
theorem waitingAt_drawn {rest : Rest} {cases : Array CommCase} {w w' : World} (h : waitingAt rest cases w = some w') : w'.drawn = w.drawn := by
  unfold waitingAt at h
  repeat' split at h
  all_goals first | (cases h; done) | (cases h; rfl)
theorem ite_fst {c : Prop} [Decidable c] {a b : Stepped × Array MemOp} {n : Nat} (h1 : sD n a.1) (h2 : sD n b.1) : sD n (if c then a else b).1 := by split <;> assumption
theorem communicate_le (p : Program) (rest : Rest) (gs : Array Goroutine) (i : Nat) (g : Goroutine) (cs : Array CommCase) (bl : Bool) (sh : CommShape) (w : World) : sD w.drawn (communicate p rest gs i g cs bl sh w).1 := by
  unfold communicate
  simp only []
  refine ite_fst trivial (ite_fst (ite_fst ?_ (Nat.le_refl _)) ?_)
  · split
    · rename_i e; exact Nat.le_of_eq (waitingAt_drawn e).symm
    · trivial
  · split
    · trivial
    · rename_i w1 e
      have h : w.drawn ≤ w1.drawn := run_le' e
      clear e
      split
      · split
        · rename_i e; exact Nat.le_trans h (run_le' e)
        · trivial
      · exact h
      · exact h
      · split
        · exact h
        · split
          · rename_i e; exact Nat.le_trans h (run_le' e)
          · trivial
      · exact h
      · exact h
      · trivial
theorem serve_le (p : Program) (m : Machine) (k : Nat) : sD m.world.drawn (serve p m k) := by
  unfold serve
  split
  · trivial
  · exact Nat.le_refl _
  · simp only []
    split
    · trivial
    · exact Nat.le_refl _
theorem timerOp_drawn {m m' : Machine} {op : TimerOp} {v : Value} (h : timerOp m op = .ok (v, m')) : m'.world.drawn = m.world.drawn := by
  have rt : ∀ (m : Machine) (k : Nat) (t : Timer) (a b : Nat), (retime m k t a b).2.world.drawn = m.world.drawn := by
    intro m k t a b
    unfold retime drain
    simp only []
    split
    · split <;> rfl
    · rfl
  cases op with
  | new t =>
    simp only [timerOp] at h
    repeat' split at h
    all_goals first | (cases h; done) | (cases h; rfl)
  | stop var =>
    simp only [timerOp, timerOp.named] at h
    split at h
    · injection h with h; rw [show m' = _ from congrArg Prod.snd h.symm]; exact rt ..
    · cases h
  | reset var a b =>
    simp only [timerOp, timerOp.named, timerOp.opened] at h
    split at h
    · rename_i e
      have e2 : ∀ m2 : Machine, (if waitedFor m var = true then match Kernel.withPoller m.world.os with | .ok os => some { m with world := { m.world with os } } | .error _ => none else some m) = some m2 → m2.world.drawn = m.world.drawn := by
        intro m2 e
        repeat' split at e
        all_goals first | (cases e; done) | (cases e; rfl)
      have e3 := e2 _ e
      split at h
      · injection h with h; rw [show m' = _ from congrArg Prod.snd h.symm]; exact (rt ..).trans e3
      · cases h
    · cases h
  | deadline a b c d => simp only [timerOp] at h; cases h; rfl
theorem runT_sD (p : Program) (m : Machine) (i : Nat) (b : Bool) : sD m.world.drawn (runT p m i b).1 := by
  unfold runT
  simp only []
  have h := stepG_le p (i == 0) b (m.gs.swapAt! i { (default : Goroutine) with status := .finished }).1 m.world
  generalize stepG p (i == 0) (m.gs.swapAt! i { (default : Goroutine) with status := .finished }).1 m.world b = s at h ⊢
  cases s
  all_goals simp only []
  all_goals try exact h
  all_goals try trivial
  · exact sD.trans h (communicate_le ..)
  · exact ite_sW trivial h
  · split
    · rename_i e; exact Nat.le_trans h (Nat.le_of_eq (timerOp_drawn e).symm)
    · split
      · rename_i e; cases e; exact h
      · trivial
    · trivial
    · trivial
  · split
    · exact h
    · split
      · rename_i e; cases e; exact h
      · trivial
    · trivial
  · exact sD.trans h (look_le ..)
def mvD (n : Nat) : Move → Prop
  | .goroutine m _ => n ≤ m.world.drawn
  | .machine s _ => sD n s
theorem mvD.trans {n k : Nat} {s : Move} (h : n ≤ k) (g : mvD k s) : mvD n s := by
  cases s with
  | goroutine m i => exact Nat.le_trans h g
  | machine s o => exact sD.trans h g
theorem askOn_le (p : Program) (m : Machine) : mvD m.world.drawn (askOn p m) := by
  have pick : ∀ (m : Machine) (rs : List Nat), mvD m.world.drawn (match (choose (.sched rs.length)).run p m.world with
      | .halt _ w => .machine (.ended (.stuck "sched" "") w)
      | .ok k world =>
        if rs.length ≤ 1 then .goroutine { m with world } (rs.getD k 0) else
        match (choose (.extern "sched.slice" 65536)).run p world with
        | .halt _ w => .machine (.ended (.stuck "sched.slice" "") w)
        | .ok n world => .goroutine { m with world, rest := { m.rest with slice := if n = 0 then none else some (rs.getD k 0, n) } } (rs.getD k 0)) := by
    intro m rs
    split
    · trivial
    · rename_i w1 e
      have h : m.world.drawn ≤ w1.drawn := run_le' e
      split
      · exact h
      · split
        · trivial
        · rename_i e; exact Nat.le_trans h (run_le' e)
  unfold askOn
  simp only []
  split
  · trivial
  · rename_i k w1 e
    have h : m.world.drawn ≤ w1.drawn := run_le' e
    clear e
    split
    · exact sD.trans h (serve_le p { m with world := w1 } _)
    · split
      · split
        · exact h
        · split
          · exact h
          · split <;> trivial
      · split
        · exact mvD.trans h (pick { m with world := w1 } _)
        · split
          · trivial
          · rename_i w2 e; exact mvD.trans (Nat.le_trans h (run_le' e)) (pick { m with world := w2 } _)
          · rename_i e; exact Nat.le_trans h (run_le' e)
          · rename_i k2 w2 e; exact mvD.trans (Nat.le_trans h (run_le' e)) (pick (Machine.advanceTo { m with world := w2 } _) _)
theorem ask_le' (p : Program) (m : Machine) : mvD m.world.drawn (ask p m) := by
  unfold ask
  split
  · split
    · trivial
    · rename_i w1 e
      have h : m.world.drawn ≤ w1.drawn := run_le' e
      have h2 := look_le p m.gs m.rest w1
      split
      · rename_i e2; rw [e2] at h2; exact mvD.trans (Nat.le_trans h h2) (askOn_le ..)
      · exact sD.trans h h2
    · rename_i w1 _ e
      have h : m.world.drawn ≤ w1.drawn := run_le' e
      exact mvD.trans h (askOn_le p { m with world := w1 })
  · exact askOn_le ..
theorem move_le (p : Program) (m : Machine) : mvD m.world.drawn (move p m) := by
  unfold move
  split
  · split
    · exact Nat.le_refl _
    · trivial
  · split
    · split
      · exact Nat.le_refl _
      · exact ask_le' p { m with rest := { m.rest with slice := none } }
    · exact ask_le' ..
theorem step_le (p : Program) (m : Machine) : sD m.world.drawn (step p m) := by
  unfold step stepT
  have h := move_le p m
  split
  · rename_i e; rw [e] at h; exact sD.trans h (runT_sD ..)
  · rename_i e; rw [e] at h; exact h
theorem runN_le (p : Program) : ∀ (n : Nat) (m m' : Machine), runN p n m = .next m' → m.world.drawn ≤ m'.world.drawn
  | 0, m, m', h => by cases h; exact Nat.le_refl _
  | n + 1, m, m', h => by
    rw [runN] at h
    have h1 := step_le p m
    split at h
    · rename_i e; rw [e] at h1; exact Nat.le_trans h1 (runN_le p n _ _ h)
    · rename_i e; rw [h] at e; exact absurd rfl (e _)
theorem steps_le {p : Program} {m m' : Machine} (h : Steps p m m') : m.world.drawn ≤ m'.world.drawn := by
  obtain ⟨n, h⟩ := h
  exact runN_le p n m m' h
/-- What a call has drawn never falls. -/
theorem calls_drawn {p : Program} {f : FuncId} {args : Array Value} {w : World} {R : Ending → World → Prop} (h : Calls p f args w R) : Calls p f args w fun e w' => R e w' ∧ ((∃ v, e = .returned v) → w.drawn ≤ w'.drawn) := by
  intro cs
  obtain ⟨e, w', fr, h1, h2, h3, h4⟩ := h cs
  refine ⟨e, w', fr, ⟨h1, ?_⟩, h2, h3, h4⟩
  rintro ⟨v, rfl⟩
  exact steps_le (m := lone _ cs w) (m' := lone fr cs w') h2
end Go.Ev

/- Functions of plain values by what the kit says of them over worlds: what lies below stays. -/
namespace Go.Ev
open Go Go.RowKit

section
variable {P : Program} {G : Env} {pl : Pl} {M : Mem} {h : AHeap} {w w' : World} {f : FuncId} {args : List AV} {v : AV}

theorem Rep.below (hr : Rep pl M h w) (hb : Below w.heap.size w w') : Rep pl M h w' :=
  ⟨hr.dom, fun id p o h1 h2 => by rw [hb.block _ (hr.blk id p h1)]; exact hr.obj id p o h1 h2, fun id p h1 => Nat.lt_of_lt_of_le (hr.blk id p h1) hb.size, hr.inj,
    fun b c h1 => by rw [hb.block _ (hr.memLt h1)]; exact hr.imm b c h1, hr.sep⟩
theorem Step.below (hb : Below w.heap.size w w') (hd : w.drawn ≤ w'.drawn) : Step h pl M w h pl M w' :=
  ⟨Ext.refl _, fun _ _ h => h, fun _ _ h => h, hb.size, fun b h1 _ => hb.block b h1, fun id p h => .inl ⟨p, h, rfl⟩, fun _ _ _ h => h, fun _ _ h _ => h, fun _ _ h => .inl h, hb.os, hb.tape, hb.output, hd⟩

/-- A function that the kit knows. -/
theorem HPure.below (hE : ∀ vs w, (callFunc f vs).run P w = .ok (.enter f vs) w)
    (hC : ∀ (pl : Pl) (M : Mem) (w : World) (vs : Array Value) (h : AHeap), GOk G pl M → Rep pl M h w → VRels pl M args vs → ∃ cv, VRel pl M v cv ∧ Calls P f vs w fun e w' => e = .returned cv ∧ Below w.heap.size w w') : HPure P G f args v := by
  intro h pl M w vs hG hr hv
  obtain ⟨cv, h1, h2⟩ := hC pl M w vs h hG hr hv
  refine .inl ⟨hE _ _, Calls.mono (calls_drawn h2) fun e w' ⟨⟨he, hb⟩, hd⟩ => ?_⟩
  exact ⟨cv, v, h, he, ⟨rfl, rfl⟩, pl, M, h1, hr.below hb, Step.below hb (hd ⟨_, he⟩), Nat.le_refl _⟩

/-- A closure of plain values, as the kit wants it. -/
theorem HPure.calls (hGT : GTop G) (hE : ∀ vs w, (callFunc f vs).run P w = .ok (.enter f vs) w) (hp : HPure P G f args v) (hG : GOk G pl M) (hr : Rep pl M h w) {vs : Array Value} (hv : VRels (fun _ => none) M args vs) :
    Calls P f vs w fun e w' => (∃ cv pl' M', e = .returned cv ∧ VRel pl' M' v cv) ∧ Below w.heap.size w w' ∧ w.drawn ≤ w'.drawn := by
  have r0 : Rep (fun _ => none) M AHeap.none w := ⟨fun _ _ h => (by cases h), fun _ _ _ h _ => (by cases h), fun _ _ h => (by cases h), fun _ _ _ _ h _ _ => (by cases h), hr.imm, fun _ _ h => (by cases h)⟩
  rcases hp AHeap.none (fun _ => none) M w vs (hG.none hGT) r0 hv with ⟨_, h2⟩ | ⟨cv, w1, v1, h1, e1, _, _⟩
  · refine Calls.mono h2 fun e w' ⟨cv, v1, h1, he, ⟨e1, e2⟩, pl', M', g1, g2, g3, _⟩ => ?_
    subst e1
    exact ⟨⟨cv, pl', M', he, g1⟩, ⟨g3.os, g3.tape, g3.out, g3.size, fun b hb => g3.kept b hb fun id p h => (by cases h)⟩, g3.drawn⟩
  · rw [hE] at e1; cases e1
end
end Go.Ev

/- What a label, a word, a name must be; where a run of bytes of one class ends. -/
namespace Go.Ev
open Go

def inB (lo hi : Int) (c : UInt8) : Bool := bnot (ltI (.ofNat c.toNat) lo || ltI hi (.ofNat c.toNat))
abbrev digB : UInt8 → Bool := inB 48 57
abbrev capB : UInt8 → Bool := inB 65 90
/-- How many bytes of a class come first. -/
def runB (p : UInt8 → Bool) (s : Str) : Nat := (s.takeWhile p).length
section
variable {p : UInt8 → Bool} {s : Str}
theorem runB_le : runB p s ≤ s.length := (List.takeWhile_prefix p).length_le
theorem runB_at : ∀ {s : Str} {i : Nat}, i < runB p s → p (gD s i) = true
  | [], i, h => by simp [runB] at h
  | c :: r, i, h => by
    cases hc : p c with
    | false => simp [runB, hc] at h
    | true =>
      cases i with
      | zero => exact hc
      | succ i => exact runB_at (s := r) (by simpa [runB, hc] using h)
theorem runB_end : ∀ {s : Str}, runB p s < s.length → p (gD s (runB p s)) = false
  | [], h => by simp at h
  | c :: r, h => by
    cases hc : p c with
    | false => simp [runB, hc, gD]
    | true =>
      have h2 : runB p r < r.length := by simpa [runB, hc] using h
      have := runB_end (s := r) h2
      simpa [runB, hc, gD] using this
theorem runB_full : ∀ {s : Str}, runB p s = s.length ↔ s.all p = true
  | [] => by simp [runB]
  | c :: r => by
    have ih : runB p r = r.length ↔ r.all p = true := runB_full
    cases hc : p c with
    | false => simp [runB, hc]
    | true => simpa [runB, hc] using ih
end
theorem inB_hi {lo hi : Int} {c : UInt8} (h1 : ltI hi (.ofNat c.toNat) = true) : inB lo hi c = false := by unfold inB; rw [h1]; cases ltI (.ofNat c.toNat) lo <;> rfl

/-- A label. -/
def labelB (s : Str) : Bool := bnot (ltI (.ofNat (s.take (runB digB s)).length) 1) && (bnot (ltI 4 (.ofNat (s.take (runB digB s)).length)) && (bnot (eqI (.ofNat (gD (s.take (runB digB s)) 0).toNat) 48) && (bnot (ltI 3 (.ofNat (s.drop (runB digB s)).length)) && (s.drop (runB digB s)).all capB)))
/-- A word; a row of words. -/
def wordB (s : Str) : Bool := bnot (ltI (.ofNat s.length) 1) && (bnot (ltI 24 (.ofNat s.length)) && s.all (inB 33 126))
def rowB (l : List Str) : Bool := bnot (ltI 256 (.ofNat l.length)) && l.all wordB
theorem lit0 : ({ data := #[] } : ByteArray).data.toList = ([] : List UInt8) := rfl
theorem empty_lt (s : Str) : ltI (.ofNat s.length) 1 = eqB s [] := by cases s <;> rfl
/-- The first place, from 'i' on, of an element of the kind; -1: there is none. -/
def idxL {α : Type} (p : α → Bool) : List α → Nat → Int
  | [], _ => -1
  | x :: r, i => bif p x then Int.ofNat i else idxL p r (i + 1)
theorem idxL_neg {α : Type} (p : α → Bool) : ∀ (l : List α) (i : Nat), ltI (idxL p l i) 0 = bnot (l.any p)
  | [], _ => rfl
  | x :: r, i => by
    unfold idxL
    rw [List.any_cons]
    cases h : p x with
    | true => rfl
    | false => rw [cond_false, idxL_neg p r (i + 1), Bool.false_or]
section
variable {α : Type} {p : α → Bool} {l x r : List α} {w : α} {j : Nat}
theorem drop_len (h1 : l.drop j = x) (h2 : x = w :: r) : l.length - (w :: r).length = j ∧ l.length - r.length = j + 1 := by
  have := congrArg List.length (h1.trans h2)
  simp only [List.length_drop, List.length_cons] at this ⊢
  omega
theorem idx_hit (h1 : l.drop j = x) (h2 : x = w :: r) (h3 : idxL p l 0 = idxL p (w :: r) (l.length - (w :: r).length)) (h4 : p w = true) : idxL p l 0 = Int.ofNat j := by
  rw [h3, (drop_len h1 h2).1, idxL, h4]; rfl
theorem idx_step (h1 : l.drop j = x) (h2 : x = w :: r) (h3 : idxL p l 0 = idxL p (w :: r) (l.length - (w :: r).length)) (h4 : p w = false) : idxL p l 0 = idxL p r (l.length - r.length) := by
  rw [h3, (drop_len h1 h2).1, (drop_len h1 h2).2, idxL, h4]; rfl
theorem idx_start : idxL p l 0 = idxL p l (l.length - l.length) := by rw [Nat.sub_self]
end

/-- An address. -/
def abookB (s : PStep) : Bool := eqI s.kind 0 && eqB s.label []
def stepB (s : PStep) : Bool := ltI 0 s.kind && (bnot (ltI 7 s.kind) && labelB s.label)
def adrL : List PStep → Bool
  | [] => true
  | s :: r => (abookB s || stepB s) && r.all stepB
def addrB (p : List PStep) : Bool := adrL p && bnot (ltI 9 (.ofNat p.length))
def adrR (p r : List PStep) : Bool := bif Nat.beq r.length p.length then adrL r else r.all stepB
theorem adr_start {p : List PStep} : adrL p = adrR p p := by unfold adrR; rw [Nat.beq_refl]; rfl
theorem adr_end {p : List PStep} : adrR p [] = true := by unfold adrR; cases Nat.beq ([] : List PStep).length p.length <;> rfl
theorem adr_go {p x r : List PStep} {w : PStep} {j : Nat} (h1 : p.drop j = x) (h2 : x = w :: r) (h3 : adrL p = adrR p (w :: r)) : adrL p = ((bif eqI (Int.ofNat j) 0 then (abookB w || stepB w) else stepB w) && adrR p r) := by
  obtain ⟨e1, e2⟩ := drop_len h1 h2
  have e3 := congrArg List.length (h1.trans h2)
  simp only [List.length_drop, List.length_cons] at e1 e2 e3
  have f1 : Nat.beq r.length p.length = false := by cases h : Nat.beq r.length p.length with | false => rfl | true => have := Nat.eq_of_beq_eq_true h; omega
  rw [h3]
  unfold adrR
  rw [f1]
  cases j with
  | zero =>
    have f2 : Nat.beq (w :: r).length p.length = true := by rw [show (w :: r).length = p.length by simp only [List.length_cons]; omega]; exact Nat.beq_refl _
    rw [f2]; rfl
  | succ j =>
    have f2 : Nat.beq (w :: r).length p.length = false := by cases h : Nat.beq (w :: r).length p.length with | false => rfl | true => have := Nat.eq_of_beq_eq_true h; simp only [List.length_cons] at this; omega
    rw [f2]; rfl
/-- The kinds: names; what may lie in what. -/
def kindNm : Int → Str
  | 0 => [98, 111, 111, 107]
  | 1 => [112, 97, 114, 116]
  | 2 => [115, 101, 99, 116, 105, 111, 110]
  | 3 => [112, 97, 114, 97, 103, 114, 97, 112, 104]
  | 4 => [116, 97, 98, 108, 101]
  | 5 => [114, 111, 119]
  | 6 => [99, 101, 108, 108]
  | 7 => [110, 111, 116, 101]
  | _ => []
def underK : Int → List Int
  | 0 => [1, 2]
  | 1 => [2]
  | 2 => [3, 4, 7]
  | 3 => [3, 4, 7]
  | 4 => [5]
  | 5 => [6]
  | _ => []
def nestsB (p k : Int) : Bool := (underK p).any (eqI k)
theorem kind_cases {k : Int} (h1 : 0 ≤ k) (h2 : k ≤ 7) : k = 0 ∨ k = 1 ∨ k = 2 ∨ k = 3 ∨ k = 4 ∨ k = 5 ∨ k = 6 ∨ k = 7 := by omega
theorem kindNm_out {k : Int} (h : k < 0 ∨ 7 < k) : kindNm k = [] := by
  unfold kindNm
  split <;> first | rfl | omega
theorem underK_out {k : Int} (h : k < 0 ∨ 7 < k) : underK k = [] := by
  unfold underK
  split <;> first | rfl | omega
end Go.Ev

/- The library's searches for a rune of a kind, by what the kit says of them. -/
namespace Go.Ev
open Go Go.RowKit Go.Proofs

/-- A class of bytes below 128, and the runes that are none of it. -/
structure ClassOf (p : UInt8 → Bool) (q : Nat → Bool) : Prop where
  low : ∀ c : UInt8, c.toNat < 128 → q c.toNat = bnot (p c)
  high : ∀ n, 128 ≤ n → q n = true
  none : ∀ c : UInt8, 128 ≤ c.toNat → p c = false
theorem gD_byte {s : Str} {i : Nat} (h : i < s.length) (h2 : i < ByteArray.size ⟨⟨s⟩⟩) : (ByteArray.mk ⟨s⟩)[i]'h2 = gD s i := by
  simp [gD, List.getD, List.getElem?_eq_getElem h]
  rfl
theorem idxFunc_from {p : UInt8 → Bool} {q : Nat → Bool} (hc : ClassOf p q) (s : Str) : ∀ (f pos : Nat), pos ≤ runB p s → s.length ≤ pos + f → Lib.idxFuncFrom q true ⟨⟨s⟩⟩ f pos = (bif Nat.beq (runB p s) s.length then -1 else Int.ofNat (runB p s))
  | f, pos, h1, h2 => by
    have hl := runB_le (p := p) (s := s)
    have hsz : ByteArray.size ⟨⟨s⟩⟩ = s.length := rfl
    by_cases he : pos < s.length
    · cases f with
      | zero => omega
      | succ f =>
        unfold Lib.idxFuncFrom
        rw [hsz, if_pos he]
        have hb := gD_byte he (by rw [hsz]; exact he)
        by_cases hr : pos < runB p s
        · have hp := runB_at hr
          have ha : (gD s pos).toNat < 128 := by
            rcases Nat.lt_or_ge (gD s pos).toNat 128 with h | h
            · exact h
            · rw [hc.none _ h] at hp; cases hp
          rw [decode_ascii _ pos (by rw [hsz]; exact he) (by rw [hb]; exact ha), hb]
          rw [if_neg (by rw [hc.low _ ha, hp]; decide)]
          exact idxFunc_from hc s f (pos + 1) hr (by omega)
        · have e : runB p s = pos := by omega
          have hp := runB_end (p := p) (s := s) (by omega)
          rw [e] at hp
          have hq : q (Utf8.decode ⟨⟨s⟩⟩ pos).1 = true := by
            rcases Nat.lt_or_ge (gD s pos).toNat 128 with h | h
            · rw [decode_ascii _ pos (by rw [hsz]; exact he) (by rw [hb]; exact h), hb, hc.low _ h, hp]; rfl
            · exact hc.high _ (decode_high _ pos (by rw [hsz]; exact he) (by rw [hb]; exact h)).1
          rw [if_pos hq, e]
          have f1 : Nat.beq pos s.length = false := by cases h : Nat.beq pos s.length with | false => rfl | true => have := Nat.eq_of_beq_eq_true h; omega
          rw [f1]; rfl
    · have e : runB p s = s.length := by omega
      rw [Lib.idxFuncFrom_end _ _ _ _ _ (by rw [hsz]; exact he), e, Nat.beq_refl]; rfl
theorem idxFunc_run {p : UInt8 → Bool} {q : Nat → Bool} (hc : ClassOf p q) (s : Str) : Lib.idxFunc q true ⟨⟨s⟩⟩ = (bif Nat.beq (runB p s) s.length then -1 else Int.ofNat (runB p s)) :=
  idxFunc_from hc s _ 0 (Nat.zero_le _) (by show s.length ≤ 0 + s.length; omega)

section
variable {P : Program} {G : Env} {f g : FuncId}
theorem predGrows {pl : Pl} {M : Mem} {w : World} {h : AHeap} (hGT : GTop G) (hg2 : ∀ args w, (callFunc g args).run P w = .ok (.enter g args) w) {q : Nat → Bool} {qI : Int → Bool} (hp : ∀ r : Int, HPure P G g [.int .i32 r] (.bool (qI r))) (hq : ∀ n : Nat, qI (.ofNat n) = q n)
    (hG : GOk G pl M) (hr : Rep pl M h w) : PredGrows P g #[] q w := by
  intro W x _ hb
  refine Calls.mono (HPure.calls hGT hg2 (hp (.ofNat x)) hG (hr.below hb) (vs := #[.int .i32 (.ofNat x)]) ⟨rfl, fun j y hj => ?_⟩) fun e w' ⟨⟨cv, pl', M', he, hv⟩, hb', _⟩ => ?_
  · cases j with
    | zero => simp at hj; subst hj; exact .int _ _
    | succ j => simp at hj
  · cases hv
    exact ⟨by rw [he, hq], hb'⟩
theorem indexFunc_call (hGT : GTop G) (hE : ∀ vs w, (callFunc f vs).run P w = .ok (.enter f vs) w) (hg2 : ∀ args w, (callFunc g args).run P w = .ok (.enter g args) w) {q : Nat → Bool} {qI : Int → Bool}
    (hC : ∀ (s : ByteArray) (w : World), PredGrows P g #[] q w → Calls P f #[.string s, .func (.func g) #[] #[]] w fun e w' => e = .returned (.int .i64 (Lib.idxFunc q true s)) ∧ Below w.heap.size w w')
    (hp : ∀ r : Int, HPure P G g [.int .i32 r] (.bool (qI r))) (hq : ∀ n : Nat, qI (.ofNat n) = q n) {p : UInt8 → Bool} (hc : ClassOf p q) (s : Str) :
    HPure P G f [.str s, .func (.func g) [] []] (.int .i64 (bif Nat.beq (runB p s) s.length then -1 else Int.ofNat (runB p s))) := by
  refine HPure.below hE fun pl M w vs h hG hr hv => ?_
  obtain ⟨a, b, rfl, hv1, hv2⟩ := args2 hv
  have e2 := rel_func hv2
  subst e2
  cases hv1
  rw [← idxFunc_run hc s]
  exact ⟨_, .int _ _, hC ⟨⟨s⟩⟩ w (predGrows hGT hg2 hp hq hG hr)⟩
theorem containsFunc_call (hGT : GTop G) (hE : ∀ vs w, (callFunc f vs).run P w = .ok (.enter f vs) w) (hg2 : ∀ args w, (callFunc g args).run P w = .ok (.enter g args) w) {q : Nat → Bool} {qI : Int → Bool}
    (hC : ∀ (s : ByteArray) (w : World), PredGrows P g #[] q w → Calls P f #[.string s, .func (.func g) #[] #[]] w fun e w' => e = .returned (.bool (decide (0 ≤ Lib.idxFunc q true s))) ∧ Below w.heap.size w w')
    (hp : ∀ r : Int, HPure P G g [.int .i32 r] (.bool (qI r))) (hq : ∀ n : Nat, qI (.ofNat n) = q n) {p : UInt8 → Bool} (hc : ClassOf p q) (s : Str) :
    HPure P G f [.str s, .func (.func g) [] []] (.bool (bnot (s.all p))) := by
  refine HPure.below hE fun pl M w vs h hG hr hv => ?_
  obtain ⟨a, b, rfl, hv1, hv2⟩ := args2 hv
  have e2 := rel_func hv2
  subst e2
  cases hv1
  have e : bnot (s.all p) = decide (0 ≤ Lib.idxFunc q true ⟨⟨s⟩⟩) := by
    rw [idxFunc_run hc s]
    cases ha : s.all p with
    | true => rw [(runB_full (p := p)).2 ha, Nat.beq_refl]; rfl
    | false =>
      have : Nat.beq (runB p s) s.length = false := by
        cases hb : Nat.beq (runB p s) s.length with
        | false => rfl
        | true => rw [(runB_full (p := p)).1 (Nat.eq_of_beq_eq_true hb)] at ha; cases ha
      rw [this]
      exact (decide_eq_true (Int.natCast_nonneg _)).symm
  rw [e]
  exact ⟨_, .bool _, hC ⟨⟨s⟩⟩ w (predGrows hGT hg2 hp hq hG hr)⟩
end
/-- The digits; the capitals. -/
theorem class_in {lo hi : Nat} (h : hi < 128) : ClassOf (inB (Int.ofNat lo) (Int.ofNat hi)) fun n => ltI (Int.ofNat n) (Int.ofNat lo) || ltI (Int.ofNat hi) (Int.ofNat n) where
  low c _ := by unfold inB; cases (ltI (.ofNat c.toNat) (Int.ofNat lo) || ltI (Int.ofNat hi) (.ofNat c.toNat)) <;> rfl
  high n hn := by rw [show ltI (Int.ofNat hi) (Int.ofNat n) = true from ltI_t (by simp only [Int.ofNat_eq_natCast]; omega)]; exact Bool.or_true _
  none c hn := inB_hi (ltI_t (by simp only [Int.ofNat_eq_natCast]; omega))
end Go.Ev

/- Trees of units: numbers, the way to a unit, what a tree must be. -/
namespace Go.Ev
open Go

structure PId where
  a : Int
  i : Int
  n : Int
  deriving Inhabited, DecidableEq
noncomputable def encPid (p : PId) : AV := .agg [.int .i64 p.a, .int .i64 p.i, .int .i64 p.n]
theorem encPid_top (p : PId) : (encPid p).top = 0 := rfl
def idOf (u : TUnit) : PId := ⟨u.act, u.item, u.n⟩
def eqPid (p q : PId) : Bool := eqI p.a q.a && (eqI p.i q.i && eqI p.n q.n)
theorem eqPid_t {p q : PId} (h : eqPid p q = true) : p = q := by
  unfold eqPid at h
  rw [Bool.and_eq_true, Bool.and_eq_true] at h
  obtain ⟨a, b, c⟩ := p; obtain ⟨d, e, g⟩ := q
  have h1 := eqI_t h.1; have h2 := eqI_t h.2.1; have h3 := eqI_t h.2.2
  simp only at h1 h2 h3
  subst h1; subst h2; subst h3; rfl
theorem eqPid_refl (p : PId) : eqPid p p = true := by simp [eqPid, eqI_refl]
abbrev isId (p : PId) (u : TUnit) : Bool := eqPid (idOf u) p
theorem keyPid : KeyOf PId true 3 [(0, 1), (1, 1), (2, 1)] encPid eqPid where
  eq a b := by
    show eqL [.int .i64 a.a, .int .i64 a.i, .int .i64 a.n] [.int .i64 b.a, .int .i64 b.i, .int .i64 b.n] [(0, 1), (1, 1), (2, 1)] = _
    simp only [eqL, nth, eqO, eqS, kindB, eqPid]
    cases h1 : eqI a.a b.a <;> cases h2 : eqI a.i b.i <;> cases h3 : eqI a.n b.n <;> rfl
  t a b h := eqPid_t h
  refl a := eqPid_refl a
  same a := by simp [encPid, keySame, plainSames, plainSame, kindB, eqI_refl]
  top a := rfl

mutual
def nU : TUnit → Nat
  | ⟨_, _, _, _, _, _, _, ks⟩ => 1 + nUs ks
def nUs : List TUnit → Nat
  | [] => 0
  | k :: r => nU k + nUs r
end
mutual
def depU : TUnit → Nat
  | ⟨_, _, _, _, _, _, _, ks⟩ => depUs ks
def depUs : List TUnit → Nat
  | [] => 0
  | k :: r => Nat.max (1 + depU k) (depUs r)
end
mutual
def preU : TUnit → List TUnit
  | ⟨x1, x2, x3, x4, x5, x6, x7, ks⟩ => ⟨x1, x2, x3, x4, x5, x6, x7, ks⟩ :: preUs ks
def preUs : List TUnit → List TUnit
  | [] => []
  | k :: r => preU k ++ preUs r
end
mutual
def wayU (p : PId) : TUnit → List TUnit
  | ⟨x1, x2, x3, x4, x5, x6, x7, ks⟩ => bif isId p ⟨x1, x2, x3, x4, x5, x6, x7, ks⟩ then [⟨x1, x2, x3, x4, x5, x6, x7, ks⟩] else match waysU p ks with
    | [] => []
    | y :: t => ⟨x1, x2, x3, x4, x5, x6, x7, ks⟩ :: y :: t
def waysU (p : PId) : List TUnit → List TUnit
  | [] => []
  | k :: r => match wayU p k with
    | [] => waysU p r
    | y :: t => y :: t
end
theorem nU_eq (u : TUnit) : nU u = 1 + nUs u.kids := by cases u; rw [nU]; rfl
theorem nUs_nil : nUs [] = 0 := by rw [nUs]
theorem nUs_cons (k : TUnit) (r : List TUnit) : nUs (k :: r) = nU k + nUs r := by rw [nUs]
theorem depU_eq (u : TUnit) : depU u = depUs u.kids := by cases u; rw [depU]; rfl
theorem depUs_nil : depUs [] = 0 := by rw [depUs]
theorem depUs_cons (k : TUnit) (r : List TUnit) : depUs (k :: r) = Nat.max (1 + depU k) (depUs r) := by rw [depUs]
theorem preU_eq (u : TUnit) : preU u = u :: preUs u.kids := by cases u; rw [preU]; rfl
theorem preUs_nil : preUs [] = [] := by rw [preUs]
theorem preUs_cons (k : TUnit) (r : List TUnit) : preUs (k :: r) = preU k ++ preUs r := by rw [preUs]
def idsU (u : TUnit) : List PId := (preU u).map idOf
def idsUs (l : List TUnit) : List PId := (preUs l).map idOf
theorem idsU_eq (u : TUnit) : idsU u = idOf u :: idsUs u.kids := by unfold idsU idsUs; rw [preU_eq]; rfl
theorem idsUs_nil : idsUs [] = [] := by unfold idsUs; rw [preUs_nil]; rfl
theorem idsUs_cons (k : TUnit) (r : List TUnit) : idsUs (k :: r) = idsU k ++ idsUs r := by unfold idsU idsUs; rw [preUs_cons, List.map_append]
theorem nUs_mem : ∀ {l : List TUnit} {k : TUnit}, k ∈ l → nU k ≤ nUs l
  | x :: r, k, h => by
    rw [nUs_cons]
    rcases List.mem_cons.1 h with rfl | h
    · omega
    · have := nUs_mem h; omega
theorem nU_kid {u k : TUnit} (h : k ∈ u.kids) : nU k < nU u := by rw [nU_eq u]; have := nUs_mem h; omega
theorem nU_pos (u : TUnit) : 0 < nU u := by rw [nU_eq]; omega
theorem nUs_len : ∀ (l : List TUnit), l.length ≤ nUs l
  | [] => by rw [nUs_nil]; exact Nat.le_refl _
  | k :: r => by
    rw [nUs_cons, List.length_cons]
    have := nUs_len r; have := nU_pos k; omega
theorem kids_len (u : TUnit) : u.kids.length < nU u := by rw [nU_eq]; have := nUs_len u.kids; omega
theorem preUs_len {l : List TUnit} (h : ∀ k, k ∈ l → (preU k).length = nU k) : (preUs l).length = nUs l := by
  induction l with
  | nil => rw [preUs_nil, nUs_nil]; rfl
  | cons k r ih => rw [preUs_cons, nUs_cons, List.length_append, h k (List.mem_cons_self ..), ih fun x hx => h x (List.mem_cons_of_mem _ hx)]
theorem preU_len : ∀ (u : TUnit), (preU u).length = nU u := TUnit.ind fun u ih => by
  rw [preU_eq, nU_eq, List.length_cons, preUs_len ih]; omega
theorem idsU_len (u : TUnit) : (idsU u).length = nU u := by unfold idsU; rw [List.length_map, preU_len]
theorem depUs_le {l : List TUnit} {n : Nat} (h : ∀ k, k ∈ l → 1 + depU k ≤ n) : depUs l ≤ n := by
  induction l with
  | nil => rw [depUs_nil]; exact Nat.zero_le _
  | cons k r ih => rw [depUs_cons]; exact Nat.max_le.2 ⟨h k (List.mem_cons_self ..), ih fun x hx => h x (List.mem_cons_of_mem _ hx)⟩
theorem depU_lt : ∀ (u : TUnit), depU u < nU u := TUnit.ind fun u ih => by
  have : depUs u.kids ≤ nUs u.kids := depUs_le fun k hk => by have := ih k hk; have := nUs_mem hk; omega
  rw [depU_eq, nU_eq]; omega

section
variable {p : PId} {u w : TUnit} {r : List TUnit}
theorem wayU_eq (u : TUnit) : wayU p u = bif isId p u then [u] else match waysU p u.kids with | [] => [] | y :: t => u :: y :: t := by
  cases u; rw [wayU]; rfl
theorem waysU_nil : waysU p [] = [] := by rw [waysU]
theorem waysU_cons (k : TUnit) (r : List TUnit) : waysU p (k :: r) = match wayU p k with | [] => waysU p r | y :: t => y :: t := by rw [waysU]
/-- Is it there? -/
def hasU (p : PId) (u : TUnit) : Bool := bnot (wayU p u).isEmpty
theorem hasU_f (h : hasU p u = false) : wayU p u = [] := by
  unfold hasU at h
  cases e : wayU p u with
  | nil => rfl
  | cons x r => rw [e] at h; cases h
theorem hasU_t (h : hasU p u = true) : ∃ y t, wayU p u = y :: t := by
  unfold hasU at h
  cases e : wayU p u with
  | nil => rw [e] at h; cases h
  | cons x r => exact ⟨x, r, rfl⟩
theorem hasU_ne (h : hasU p u = true) : wayU p u ≠ [] := by obtain ⟨y, t, e⟩ := hasU_t h; rw [e]; exact List.cons_ne_nil _ _
theorem way_hit (h : isId p u = true) : wayU p u = [u] := by rw [wayU_eq, h]; rfl
theorem has_hit (h : isId p u = true) : hasU p u = true := by unfold hasU; rw [way_hit h]; rfl
theorem ways_skip (h : hasU p w = false) : waysU p (w :: r) = waysU p r := by rw [waysU_cons, hasU_f h]
theorem ways_hit (h : hasU p w = true) : waysU p (w :: r) = wayU p w := by
  obtain ⟨y, t, e⟩ := hasU_t h
  rw [waysU_cons, e]
theorem way_miss (h : isId p u = false) (h2 : waysU p u.kids = waysU p []) : wayU p u = [] := by rw [wayU_eq, h, h2, waysU_nil]; rfl
theorem has_miss (h : isId p u = false) (h2 : waysU p u.kids = waysU p []) : hasU p u = false := by unfold hasU; rw [way_miss h h2]; rfl
theorem way_via (h : isId p u = false) (h2 : waysU p u.kids = waysU p (w :: r)) (h3 : hasU p w = true) : wayU p u = u :: wayU p w := by
  rw [wayU_eq, h, h2, ways_hit h3]
  obtain ⟨y, t, e⟩ := hasU_t h3
  rw [e]; rfl
theorem has_via (h : isId p u = false) (h2 : waysU p u.kids = waysU p (w :: r)) (h3 : hasU p w = true) : hasU p u = true := by unfold hasU; rw [way_via h h2 h3]; rfl
end
theorem way_len {p : PId} : ∀ (u : TUnit), (wayU p u).length ≤ nU u := TUnit.ind fun u ih => by
  rw [wayU_eq]
  cases isId p u with
  | true => exact nU_pos u
  | false =>
    have key : ∀ (r : List TUnit), (∀ k, k ∈ r → k ∈ u.kids) → (waysU p r).length ≤ nUs r := by
      intro r
      induction r with
      | nil => intro _; rw [waysU_nil]; exact Nat.zero_le _
      | cons k r ihr =>
        intro hm
        have h1 := ih k (hm k (List.mem_cons_self ..))
        have h2 := ihr fun x hx => hm x (List.mem_cons_of_mem _ hx)
        rw [waysU_cons, nUs_cons]
        cases e : wayU p k with
        | nil => simp only; omega
        | cons y t => rw [e] at h1; simp only at h1 ⊢; omega
    have := key u.kids fun _ h => h
    rw [nU_eq]
    simp only [cond_false]
    cases e : waysU p u.kids with
    | nil => simp
    | cons y t => rw [e] at this; simp only [List.length_cons] at this ⊢; omega
/-- The unit, where it is there; else an empty one. -/
def zeroU : TUnit := ⟨0, 0, 0, 0, [], [], [], []⟩
noncomputable def findU (p : PId) (u : TUnit) : TUnit := bif hasU p u then gD (wayU p u) ((wayU p u).length - 1) else zeroU
theorem way_mem {p : PId} : ∀ (u : TUnit) (x : TUnit), x ∈ wayU p u → x ∈ preU u := TUnit.ind fun u ih => by
  intro x hx
  rw [wayU_eq] at hx
  rw [preU_eq]
  cases h : isId p u with
  | true => rw [h] at hx; simp only [cond_true, List.mem_singleton] at hx; subst hx; exact List.mem_cons_self ..
  | false =>
    rw [h] at hx
    simp only [cond_false] at hx
    have key : ∀ (r : List TUnit), (∀ k, k ∈ r → k ∈ u.kids) → ∀ x, x ∈ waysU p r → x ∈ preUs r := by
      intro r
      induction r with
      | nil => intro _ x hx; rw [waysU_nil] at hx; cases hx
      | cons k r ihr =>
        intro hm x hx
        rw [waysU_cons] at hx
        rw [preUs_cons, List.mem_append]
        cases e : wayU p k with
        | nil => rw [e] at hx; exact .inr (ihr (fun z hz => hm z (List.mem_cons_of_mem _ hz)) x hx)
        | cons y t => simp only [e] at hx; rw [← e] at hx; exact .inl (ih k (hm k (List.mem_cons_self ..)) x hx)
    cases e : waysU p u.kids with
    | nil => rw [e] at hx; cases hx
    | cons y t =>
      rw [e] at hx
      rcases List.mem_cons.1 hx with rfl | hx
      · exact List.mem_cons_self ..
      · rw [← e] at hx; exact List.mem_cons_of_mem _ (key u.kids (fun _ h => h) x hx)

/-- Keys of a number and a text. -/
noncomputable def encKL (p : Int × Str) : AV := .agg [.int .i64 p.1, .str p.2]
def eqKL (a b : Int × Str) : Bool := eqI a.1 b.1 && eqB a.2 b.2
theorem eqB_refl : ∀ (s : Str), eqB s s = true
  | [] => rfl
  | c :: r => by simp only [eqB, eqB_refl r, Bool.and_true]; exact Nat.beq_refl _
theorem eqB_t : ∀ {a b : Str}, eqB a b = true → a = b
  | [], [], _ => rfl
  | c :: r, d :: q, h => by
    simp only [eqB, Bool.and_eq_true] at h
    rw [eqB_t h.2, UInt8.toNat_inj.1 (Nat.eq_of_beq_eq_true h.1)]
theorem keyKL : KeyOf (Int × Str) true 2 [(0, 1), (1, 2)] encKL eqKL where
  eq a b := by
    show eqL [.int .i64 a.1, .str a.2] [.int .i64 b.1, .str b.2] [(0, 1), (1, 2)] = _
    simp only [eqL, nth, eqO, eqS, kindB, eqKL]
    cases h1 : eqI a.1 b.1 <;> cases h2 : eqB a.2 b.2 <;> rfl
  t a b h := by
    simp only [eqKL, Bool.and_eq_true] at h
    exact Prod.ext (eqI_t h.1) (eqB_t h.2)
  refl a := by simp [eqKL, eqI_refl, eqB_refl]
  same a := by simp [encKL, keySame, plainSames, plainSame, kindB, eqI_refl, eqB_refl]
  top a := rfl
/-- A set: a map to 'true'. -/
noncomputable def encB (b : Bool) : AV := .bool b
theorem encB_top (b : Bool) : (encB b).top = 0 := rfl
def inS {K : Type} (keq : K → K → Bool) (k : K) (l : List (K × Bool)) : Bool := (getG keq k l).getD false

section
variable {K : Type} {ag : Bool} {sz : Nat} {lv : List (Nat × Nat)} {kenc : K → AV} {keq : K → K → Bool}
theorem look_set (hk : KeyOf K ag sz lv kenc keq) (m : List (K × Bool)) (k : K) : lookupE (some (.bool false)) false (findEnt ag sz lv (kenc k) (entsG kenc encB m 0) 0) = some (.bool (inS keq k m)) := by
  rw [look_entsG hk]
  unfold inS
  cases getG keq k m with
  | none => rfl
  | some v => rfl
theorem upd_set (hk : KeyOf K ag sz lv kenc keq) (m : List (K × Bool)) (k : K) : updE (entsG kenc encB m 0) m.length (kenc k) (.bool true) (findEnt ag sz lv (kenc k) (entsG kenc encB m 0) 0) = some (entsG kenc encB (setG keq k true m) 0, (setG keq k true m).length) :=
  upd_entsG (f := encB) hk k true m
end
/-- What a unit must be by itself. -/
def wordsV (l : List PWord) : Bool := bnot (ltI 256 (.ofNat l.length)) && rowB (l.map fun w => w.text)
def kidsGo (pk : Int) : List TUnit → List ((Int × Str) × Bool) → Bool
  | [], _ => true
  | k :: r, m => nestsB pk k.kind && (bnot (inS eqKL (k.kind, k.label) m) && kidsGo pk r (setG eqKL (k.kind, k.label) true m))
def aloneB (u : TUnit) : Bool :=
  (bif eqI u.kind 0 then eqB u.label [] && bnot (ltI 0 (.ofNat (u.head.length + u.words.length))) else bnot (eqB (kindNm u.kind) []) && (labelB u.label && (wordsV u.head && wordsV u.words))) && (kidsGo u.kind u.kids [] && bnot (ltI 64 (.ofNat u.kids.length)))
def allU (q : TUnit → Bool) (u : TUnit) : Bool := (preU u).all q
theorem allU_eq (q : TUnit → Bool) (u : TUnit) : allU q u = (q u && (preUs u.kids).all q) := by unfold allU; rw [preU_eq, List.all_cons]
theorem allUs_nil (q : TUnit → Bool) : (preUs []).all q = true := by rw [preUs_nil]; rfl
theorem allUs_cons (q : TUnit → Bool) (k : TUnit) (r : List TUnit) : (preUs (k :: r)).all q = (allU q k && (preUs r).all q) := by rw [preUs_cons, List.all_append]; rfl
/-- The numbers of a tree, as a set; whether they may stand. -/
def setOf (l : List PId) (m : List (PId × Bool)) : List (PId × Bool) := l.foldl (fun m p => setG eqPid p true m) m
theorem setOf_cons (p : PId) (l : List PId) (m : List (PId × Bool)) : setOf (p :: l) m = setOf l (setG eqPid p true m) := rfl
def zeroId : PId := ⟨0, 0, 0⟩
def idsB (u : TUnit) : Bool :=
  (inS eqPid zeroId (setOf (idsU u) []) && eqI (.ofNat (setOf (idsU u) []).length) 1) || (eqI (.ofNat (setOf (idsU u) []).length) (.ofNat (idsU u).length) && (eqI u.kind 0 == isId zeroId u))
def validU (u : TUnit) : Bool := allU aloneB u && (bnot (ltI 8 (.ofNat (depU u))) && (bnot (ltI 1024 (.ofNat (nU u))) && idsB u))
theorem setG_le {K V : Type} {keq : K → K → Bool} (k : K) (v : V) : ∀ (l : List (K × V)), (setG keq k v l).length ≤ l.length + 1
  | [] => Nat.le_refl _
  | (j, u) :: r => by
    unfold setG
    cases keq k j with
    | true => simp
    | false => have := setG_le (keq := keq) k v r; simp only [List.length_cons]; omega
theorem setOf_le : ∀ (l : List PId) (m : List (PId × Bool)), (setOf l m).length ≤ m.length + l.length
  | [], m => Nat.le_refl _
  | p :: l, m => by rw [setOf_cons]; have := setOf_le l (setG eqPid p true m); have := setG_le (keq := eqPid) p true m; simp only [List.length_cons]; omega
theorem mem_kids_pre {u k : TUnit} (h : k ∈ u.kids) {x : TUnit} (hx : x ∈ preU k) : x ∈ preU u := by
  rw [preU_eq]
  refine List.mem_cons_of_mem _ ?_
  generalize u.kids = l at h
  induction l with
  | nil => cases h
  | cons y r ih =>
    rw [preUs_cons, List.mem_append]
    rcases List.mem_cons.1 h with rfl | h
    · exact .inl hx
    · exact .inr (ih h)
theorem self_pre (u : TUnit) : u ∈ preU u := by rw [preU_eq]; exact List.mem_cons_self ..
theorem kid_pre {u k : TUnit} (h : k ∈ u.kids) : k ∈ preU u := mem_kids_pre h (self_pre k)
end Go.Ev

/- Lists and trees held against one another; a slice's two ways. -/
namespace Go.Ev
open Go

section
variable {α : Type} [Inhabited α] {q : α → α → Bool} {l m x r : List α} {w : α} {j : Nat}
theorem drop_gD {m : List α} {j : Nat} (h : j < m.length) : m.drop j = gD m j :: m.drop (j + 1) := by
  rw [List.drop_eq_getElem_cons h]
  simp [gD, List.getD, List.getElem?_eq_getElem h]
end
end Go.Ev

/- 'Says less', decided: deep in slices; contracts at arguments that say more; contracts as hooks of a closed run. -/
namespace Go.Ev
open Go

/-- Cell by cell. -/
def LeC (u v : AV) : Prop := (Sc v → Sc u) ∧ Les u.cells v.cells
theorem LeC.refl (v : AV) : LeC v v := ⟨id, Les.refl _⟩
theorem LeC.one {u v : AV} (hu : u.cells = [u]) (hv : v.cells = [v]) (hs : scalB u = true) (h : Le u v) : LeC u v :=
  ⟨fun _ y hy => by rw [hu] at hy; rw [List.mem_singleton.1 hy]; exact hs, by rw [hu, hv]; exact .cons h .nil⟩
inductive LesC : List AV → List AV → Prop
  | nil : LesC [] []
  | cons {u v : AV} {us vs : List AV} (h : LeC u v) (k : LesC us vs) : LesC (u :: us) (v :: vs)
theorem LesC.len {us vs : List AV} (h : LesC us vs) : us.length = vs.length := by
  induction h with
  | nil => rfl
  | cons _ _ ih => simp [ih]
theorem LesC.at_ {us vs : List AV} (h : LesC us vs) : ∀ (j : Nat) (u : AV), us[j]? = some u → ∃ v, vs[j]? = some v ∧ LeC u v := by
  induction h with
  | nil => intro j u h; simp at h
  | cons h k ih =>
    intro j u hj
    cases j with
    | zero => simp at hj; subst hj; exact ⟨_, rfl, h⟩
    | succ j => simpa using ih j u (by simpa using hj)
theorem Le.psC {xs ys : List AV} {t : Bool} (h : LesC xs ys) : Le (.ps xs false) (.ps ys t) := fun pl M v hv => by
  cases hv with
  | @ps _ _ a cap sz c hl ht hm hs hc =>
    rw [← h.len]
    refine .ps (sz := sz) (c := c) (by rw [h.len]; exact hl) (fun h => by cases h) (fun hx => ?_) (fun x hx => ?_) fun i x j y hx hy => ?_
    · have : ys ≠ [] := fun e => hx (List.eq_nil_of_length_eq_zero (by rw [h.len, e]; rfl))
      rw [h.len]; exact hm this
    · obtain ⟨i, hi⟩ := List.getElem?_of_mem hx
      obtain ⟨y, h1, h2, h3⟩ := h.at_ i x hi
      have := hs y (List.mem_of_getElem? h1)
      exact ⟨h3.len.trans this.1, h2 this.2⟩
    · obtain ⟨z, h1, _, h3⟩ := h.at_ i x hx
      obtain ⟨d, h4, h5⟩ := h3.at_ j y hy
      exact h5 _ _ _ (hc i z j d h1 h4)
theorem Le.lsC {xs ys : List AV} {t : Bool} (h : LesC xs ys) (h0 : AV.tops xs = 0) : Le (.ls xs) (.ps ys t) := fun pl M v hv => .lsp (Le.psC h pl M v hv) h0
theorem Le.llC {xs ys : List AV} (h : LesC xs ys) (h0 : AV.tops xs = 0) : Le (.ls xs) (.ls ys) := fun pl M v hv => by
  cases hv with
  | lsn => cases h; exact .lsn
  | lsp hv _ => exact .lsp (Le.psC h pl M v hv) h0
/-- A slice with contents is not nil. -/
theorem Le.pls {x : AV} {xs ys : List AV} (h : LesC (x :: xs) ys) : Le (.ps (x :: xs) false) (.ls ys) := fun pl M v hv => by
  cases hv with
  | lsn => cases h
  | lsp hv _ => exact Le.psC h pl M v hv

mutual
/-- Does 'u' say less than 'v', or the same? -/
def AV.leB : AV → AV → Bool
  | .ls xs, .nils => xs.isEmpty
  | .ls xs, .ps ys _ => AV.leBs xs ys && Nat.beq (AV.tops xs) 0
  | .ls xs, .ls ys => AV.leBs xs ys && Nat.beq (AV.tops xs) 0
  | .ps (x :: xs) false, .ls ys => AV.leBs (x :: xs) ys
  | .ps xs false, .ps ys _ => AV.leBs xs ys
  | .agg us, .agg vs => AV.leBs us vs && us.all scalB
  | u, v => AV.same u v
def AV.leBs : List AV → List AV → Bool
  | [], [] => true
  | a :: us, b :: vs => AV.leB a b && AV.leBs us vs
  | _, _ => false
end
theorem LeC.same {u v : AV} (h : AV.same u v = true) : Le u v ∧ LeC u v := by rw [AV.same_eq _ _ h]; exact ⟨Le.refl _, LeC.refl _⟩
mutual
theorem AV.leB_ok : ∀ (u v : AV), AV.leB u v = true → Le u v ∧ LeC u v := fun u v h => by
  unfold AV.leB at h
  split at h
  · rename_i xs
    have e : xs = [] := by simpa using h
    subst e
    exact ⟨Le.nils, LeC.one rfl rfl rfl Le.nils⟩
  · rename_i xs ys t
    have h := Bool.and_eq_true_iff.1 h
    have k := Le.lsC (t := t) (AV.leBs_ok xs ys h.1).2 (Nat.eq_of_beq_eq_true h.2)
    exact ⟨k, LeC.one rfl rfl rfl k⟩
  · rename_i xs ys
    have h := Bool.and_eq_true_iff.1 h
    have k := Le.llC (AV.leBs_ok xs ys h.1).2 (Nat.eq_of_beq_eq_true h.2)
    exact ⟨k, LeC.one rfl rfl rfl k⟩
  · rename_i x xs ys
    have k := Le.pls (AV.leBs_ok (x :: xs) ys h).2
    exact ⟨k, LeC.one rfl rfl rfl k⟩
  · rename_i xs ys t
    have k := Le.psC (t := t) (AV.leBs_ok xs ys h).2
    exact ⟨k, LeC.one rfl rfl rfl k⟩
  · rename_i us vs
    have h := Bool.and_eq_true_iff.1 h
    have k := AV.leBs_ok us vs h.1
    exact ⟨Le.aggB k.1 h.2, fun _ y hy => List.all_eq_true.1 h.2 y hy, k.1⟩
  · exact LeC.same h
theorem AV.leBs_ok : ∀ (us vs : List AV), AV.leBs us vs = true → Les us vs ∧ LesC us vs := fun us vs h => by
  unfold AV.leBs at h
  split at h
  · exact ⟨.nil, .nil⟩
  · rename_i a us b vs
    have h := Bool.and_eq_true_iff.1 h
    have h1 := AV.leB_ok a b h.1
    have h2 := AV.leBs_ok us vs h.2
    exact ⟨.cons h1.1 h2.1, .cons h1.2 h2.2⟩
  · cases h
end

section
variable {P : Program} {G : Env} {f : FuncId} {a b : List AV} {u v : AV}
/-- A contract at arguments that say more. -/
theorem HPure.args (h : HPure P G f a v) (hl : Les a b) : HPure P G f b v := fun hp pl M w vs hg hr hv => h hp pl M w vs hg hr (hv.le hl)
theorem HPure.lessB (h : HPure P G f a v) (hl : AV.leB u v = true) : HPure P G f a u := h.less (AV.leB_ok _ _ hl).1
theorem mx_nat (a b : Nat) : mxI (.ofNat a) (.ofNat b) = .ofNat (Nat.max a b) := by
  unfold mxI
  cases h : ltI (.ofNat a) (.ofNat b) with
  | true =>
    have h := ltI_true h
    simp only [Int.ofNat_eq_natCast] at h
    exact congrArg Int.ofNat (Nat.max_eq_right (by omega : a ≤ b)).symm
  | false =>
    have h := ltI_false h
    simp only [Int.ofNat_eq_natCast] at h
    exact congrArg Int.ofNat (Nat.max_eq_left (by omega : b ≤ a)).symm
/-- '==' of structures, cell by cell. -/
theorem eqL_t {xs ys : List AV} {i t : Nat} {r : List (Nat × Nat)} {x y : AV} {c : Bool} (hx : nth xs i = some x) (hy : nth ys i = some y) (h : eqS t x y = some true) (k : eqL xs ys r = some c) : eqL xs ys ((i, t) :: r) = some c := by
  simp only [eqL, hx, hy, eqO, h, eqThen, k]
theorem eqL_c {xs ys : List AV} {i t : Nat} {r : List (Nat × Nat)} {x y : AV} {e c : Bool} (hx : nth xs i = some x) (hy : nth ys i = some y) (h : eqS t x y = some e) (k : eqL xs ys r = some c) : eqL xs ys ((i, t) :: r) = some (e && c) := by
  simp only [eqL, hx, hy, eqO, h]
  cases e with
  | true => exact k
  | false => rfl
theorem eqL_1 {xs ys : List AV} {i t : Nat} {r : List (Nat × Nat)} {x y : AV} {e : Bool} (hx : nth xs i = some x) (hy : nth ys i = some y) (h : eqS t x y = some e) (k : eqL xs ys r = some true) : eqL xs ys ((i, t) :: r) = some e := by
  simp only [eqL, hx, hy, eqO, h]
  cases e with
  | true => exact k
  | false => rfl
theorem eqS_i (a : Int) : eqS 1 (.int .i64 a) (.int .i64 a) = some true := congrArg some (eqI_refl a)
theorem agg_eql {d : Option TypeDesc} {n : Nat} {l : List (Nat × Nat)} {xs ys : List AV} {c : Bool} {H : AHeap} (hn : (Nat.beq xs.length n && Nat.beq ys.length n) = true) (hl : eqL xs ys l = some c) :
    retV H (two (binR .eql d (some true) (some n) (some l)) (some (.agg xs)) (some (.agg ys))) = some (.val (.bool c) H) := by
  simp only [two, binR, eqR, hn, hl, orElseB, retV]
theorem agg_neq {d : Option TypeDesc} {n : Nat} {l : List (Nat × Nat)} {xs ys : List AV} {c : Bool} {H : AHeap} (hn : (Nat.beq xs.length n && Nat.beq ys.length n) = true) (hl : eqL xs ys l = some c) :
    retV H (two (binR .neq d (some true) (some n) (some l)) (some (.agg xs)) (some (.agg ys))) = some (.val (.bool (!c)) H) := by
  simp only [two, binR, eqR, hn, hl, orElseB, retV]
/-- Pure contracts as hooks: the function, the arguments, the outcome. -/
def hookL : List (FuncId × List AV × AV) → Hook
  | [], _, _, _ => none
  | x :: r, g, b, h => match Nat.beq g x.1 with
    | true => (match AV.leBs x.2.1 b with | true => some (x.2.2, h) | false => hookL r g b h)
    | false => hookL r g b h
theorem hookL_some : ∀ {L : List (FuncId × List AV × AV)} {g : FuncId} {h h1 : AHeap} {v1 : AV}, hookL L g b h = some (v1, h1) → ∃ x, x ∈ L ∧ g = x.1 ∧ AV.leBs x.2.1 b = true ∧ v1 = x.2.2 ∧ h1 = h
  | [], _, _, _, _, e => by simp [hookL] at e
  | x :: r, g, h, h1, v1, e => by
    unfold hookL at e
    have next : hookL r g b h = some (v1, h1) → ∃ y, y ∈ x :: r ∧ g = y.1 ∧ AV.leBs y.2.1 b = true ∧ v1 = y.2.2 ∧ h1 = h := fun e =>
      let ⟨y, k, q⟩ := hookL_some e
      ⟨y, List.mem_cons_of_mem _ k, q⟩
    cases hb : Nat.beq g x.1 with
    | false => simp only [hb] at e; exact next e
    | true =>
      simp only [hb] at e
      cases hl : AV.leBs x.2.1 b with
      | false => simp only [hl] at e; exact next e
      | true =>
        simp only [hl, Option.some.injEq, Prod.mk.injEq] at e
        exact ⟨x, List.mem_cons_self, Nat.eq_of_beq_eq_true hb, hl, e.1.symm, e.2.symm⟩
theorem hookL_ok {C : Cfg} {L : List (FuncId × List AV × AV)} (hC : C.hook = hookL L) (hL : ∀ x, x ∈ L → HPure C.P C.G x.1 x.2.1 x.2.2) : HookOK C := fun g b hp v1 h1 e pl M w vs hg hr hv => by
  rw [hC] at e
  obtain ⟨x, hx, rfl, hl, rfl, rfl⟩ := hookL_some e
  rcases hL x hx h1 pl M w vs hg hr (hv.le (AV.leBs_ok _ _ hl).1) with ⟨k1, k2⟩ | ⟨cv, w', v2, h2, k1, ⟨rfl, rfl⟩, k3⟩
  · refine .inl ⟨k1, fun cs => ?_⟩
    obtain ⟨en, w', fr, ⟨cv, v2, h2, e1, ⟨rfl, rfl⟩, k3⟩, r⟩ := k2 cs
    exact ⟨en, w', fr, ⟨cv, e1, k3⟩, r⟩
  · exact .inr ⟨cv, w', k1, k3⟩
/-- Is the outcome at least that? -/
def saysV (v : AV) : Option (AV × AHeap) → Bool
  | some (u, _) => AV.leB v u && Nat.beq u.top 0
  | none => false
/-- A closed call, wherever it is made. -/
theorem HPure.closed {C : Cfg} {k : Nat} (hG : GTop C.G) (ev : CallerOK C.P C.G (evFunc C k)) (ht : AV.tops a = 0) (h : saysV v (evFunc C k f a AHeap.none) = true) : HPure C.P C.G f a v := by
  cases hx : evFunc C k f a AHeap.none with
  | none => rw [hx] at h; cases h
  | some r =>
    obtain ⟨u, h1⟩ := r
    rw [hx] at h
    have h := Bool.and_eq_true_iff.1 h
    exact (HPure.of0 hG ht (Nat.eq_of_beq_eq_true h.2) ((HCall.of ev hx).mono fun v1 _ e => e.1)).lessB h.1
end
end Go.Ev
