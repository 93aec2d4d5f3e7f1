/- An abstract machine for closed runs and for walks, proved sound against the model: part 7 of 8. No conditions. -/
import Derived.Test.YtjnecjhkmhhnnaaGreatDoorMach6
import Derived.Shelf.SortM.Plain
import Derived.Shelf.SortM.SortNone
import Derived.Shelf.SlSortCmp.NoneTotal
import Derived.Shelf.SlicesG.CompactI
import Derived.Lib.QuietBelow
import GoSem.ClaimJoined
import Derived.Calls
import Derived.RunT
import Derived.Below
import Derived.Shelf.Strings.FuncGrows
import Derived.Laws.RangeAny
import Derived.Lib.Join
import Derived.Lib.Repeat
import Derived.Lib.SlTrimSet
import Derived.RangeFuncLeaves
import Derived.RangeFuncRecord

/- The library's sorts as contracts: out of the kit's own statements over worlds. -/
namespace Go.Ev
open Go Go.Sort Go.Proofs

section
variable {P : Program} {G : Env} {pl : Pl} {M : Mem} {h : AHeap} {w w' : World}

/-- A row laid anew in its own block. -/
theorem Rep.rowNew (hr : Rep pl M h w) {id : Nat} {p : Place} {sz : Nat} {op : Bool} {ep : Nat} {xs xs' : List AV} {c c' : Array Value} {t : TypeId} (hp : pl id = some p) (hg : h.get id = some (.row sz op ep xs))
    (hb : w.heap[p.blk]? = some (.cells c t (0, 0))) (hw : w'.heap[p.blk]? = some (.cells c' t (0, 0))) (hcs : c'.size = c.size) (hlen : xs'.length = xs.length) (hel : ∀ x, x ∈ xs' → x.cells.length = sz ∧ Sc x)
    (hcell : ∀ i x j y, xs'[i]? = some x → x.cells[j]? = some y → VRel pl M y (c'.getD (i * sz + j) undef)) (hs : WSame w w') (hsz : w.heap.size ≤ w'.heap.size) (hk : ∀ b, b < w.heap.size → b ≠ p.blk → w'.heap[b]? = w.heap[b]?) :
    Rep pl M (h.put id (.row sz op ep xs')) w' ∧ Step h pl M w (h.put id (.row sz op ep xs')) pl M w' := by
  have ho := hr.obj id p _ hp hg
  rw [hb] at ho
  simp only [ObjRel] at ho
  obtain ⟨h1, h2, h3, h4, h5, h6, h7, h8⟩ := ho
  have e := upd_eq (pl := pl) hp
  have := Rep.change (p' := p) (o' := .row sz op ep xs') hr hp hg (.inl rfl) hs hsz hk (.inl rfl) (Array.getElem?_eq_some_iff.1 hw).1 (by
    rw [e, hw]
    simp only [ObjRel]
    refine ⟨h1, h2, by omega, by omega, trivial, h6, fun e => by rw [hcs, h7 e, hlen], ⟨?_, hel, fun i x j y q1 q2 => ?_⟩⟩
    · have := h8.fit; rw [hlen, hcs]; exact this
    · rw [Nat.zero_add]; exact hcell i x j y q1 q2)
  rwa [e] at this

variable {β : Type} [Inhabited β]

theorem grow_put_at {enc : β → Value} {blk off n : Nat} {d : Array β} {os : Array Obj} {c : Array Value} {t : TypeId} {fr : Nat × Nat} (hb : w.heap[blk]? = some (.cells c t fr)) :
    (grow (putRow enc (Sort.ahead w n) blk off d) os).heap[blk]? = some (.cells (putCells enc off d c) t fr) := by
  have hlt := (Array.getElem?_eq_some_iff.1 hb).1
  simp only [grow, putRow, mapBlock, Sort.ahead]
  rw [Array.getElem?_append_left (by simpa using hlt), Array.getElem?_modify, hb]
  simp [onCells]

theorem grow_put_other {enc : β → Value} {blk off n : Nat} {d : Array β} {os : Array Obj} {b : Nat} (hb : b < w.heap.size) (hne : b ≠ blk) :
    (grow (putRow enc (Sort.ahead w n) blk off d) os).heap[b]? = w.heap[b]? := by
  simp only [grow, putRow, mapBlock, Sort.ahead]
  rw [Array.getElem?_append_left (by simpa using hb), Array.getElem?_modify, if_neg (fun e => hne e.symm)]

theorem grow_put_same {enc : β → Value} {blk off n : Nat} {d : Array β} {os : Array Obj} : WSame w (grow (putRow enc (Sort.ahead w n) blk off d) os) := ⟨rfl, rfl, rfl, Nat.le_add_right _ _⟩

theorem grow_put_size {enc : β → Value} {blk off n : Nat} {d : Array β} {os : Array Obj} : w.heap.size ≤ (grow (putRow enc (Sort.ahead w n) blk off d) os).heap.size := by
  simp [grow, putRow, mapBlock, Sort.ahead]

theorem putCells_getD {enc : β → Value} {d : Array β} {c : Array Value} {k : Nat} (hk : k < d.size) (hc : k < c.size) : (putCells enc 0 d c).getD k undef = enc d[k]! := by
  simp [putCells, Array.getD_eq_getD_getElem?, Array.getElem?_mapIdx, hk, hc]

/-- A slice of a whole row that is not empty. -/
theorem slice_whole (hr : Rep pl M h w) {id ep len sz : Nat} {op : Bool} {cap : Option Nat} {xs : List AV} {x : Value} (hv : VRel pl M (.slice id ep 0 len cap) x) (hg : h.get id = some (.row sz op ep xs)) (hl : 0 < len) :
    ∃ p c t cap', pl id = some p ∧ w.heap[p.blk]? = some (.cells c t (0, 0)) ∧ x = .slice (some ⟨p.blk, 0, none⟩) len cap' ∧ InMem pl M c 0 sz xs ∧ 0 < sz ∧ p.blk < w.heap.size := by
  cases hv with
  | slice hp he hle hk ha =>
    rename_i cap' a p
    have ho := hr.obj id p _ hp hg
    cases hb : w.heap[p.blk]? with
    | none => rw [hb] at ho; simp [ObjRel] at ho
    | some ob =>
      rw [hb] at ho
      cases ob <;> simp only [ObjRel] at ho
      rename_i c t fr
      obtain ⟨h1, h2, h3, h4, h5, h6, h7, h8⟩ := ho
      subst h5
      obtain ⟨k1, _⟩ := ha (by omega)
      have k2 : a = ⟨p.blk, 0, none⟩ := by
        rcases k1 with k | k
        · omega
        · rw [k, Nat.zero_mul]
      exact ⟨p, c, t, _, hp, hb, by rw [k2], h8, h6, (Array.getElem?_eq_some_iff.1 hb).1⟩

theorem args1 {x : AV} {vs : Array Value} (hv : VRels pl M [x] vs) : ∃ a, vs = #[a] ∧ VRel pl M x a := by
  obtain ⟨l⟩ := vs
  match l, hv with
  | [a], hv => exact ⟨a, rfl, hv.at_ 0 x rfl⟩
  | [], hv => have := hv.len; simp at this
  | _ :: _ :: _, hv => have := hv.len; simp at this
theorem args2 {x y : AV} {vs : Array Value} (hv : VRels pl M [x, y] vs) : ∃ a b, vs = #[a, b] ∧ VRel pl M x a ∧ VRel pl M y b := by
  obtain ⟨l⟩ := vs
  match l, hv with
  | [a, b], hv => exact ⟨a, b, rfl, hv.at_ 0 x rfl, hv.at_ 1 y rfl⟩
  | [], hv => have := hv.len; simp at this
  | [_], hv => have := hv.len; simp at this
  | _ :: _ :: _ :: _, hv => have := hv.len; simp at this
theorem rel_func {f : Fn} {a : Value} (hv : VRel pl M (.func f [] []) a) : a = .func f #[] #[] := by
  cases hv with
  | func h1 h2 h3 h4 =>
    rename_i vs ws
    have e1 : vs = #[] := Array.eq_empty_of_size_eq_zero h1.symm
    have e2 : ws = #[] := Array.eq_empty_of_size_eq_zero h2.symm
    rw [e1, e2]

theorem tuple_rel : VRel pl M (.tuple []) (.tuple #[]) := .tuple rfl fun j y h => by simp at h

/-- .. of none. -/
theorem sortNil_call {f : FuncId} (hE : ∀ vs w, (callFunc f vs).run P w = .ok (.enter f vs) w)
    (hC : ∀ (p : Option Addr) (cap : Nat) (w : World), Calls P f #[.slice p 0 cap] w fun e w' => e = .returned (.tuple #[]) ∧ w' = w) : HPure P G f [.nils] (.tuple []) := by
  intro h pl M w vs hG hr hv
  obtain ⟨a, rfl, hv1⟩ := args1 hv
  cases hv1
  exact .inl ⟨hE _ _, Calls.mono (hC none 0 w) fun e w' ⟨he, hw⟩ => ⟨.tuple #[], .tuple [], h, he, ⟨rfl, rfl⟩, pl, M, tuple_rel, by rw [hw]; exact ⟨hr, StepF.refl .., Nat.le_refl _⟩⟩⟩
theorem sortFuncNil_call {f : FuncId} {g : Fn} (hE : ∀ vs w, (callFunc f vs).run P w = .ok (.enter f vs) w)
    (hC : ∀ (p : Option Addr) (cap : Nat) (fv : Value) (w : World), Calls P f #[.slice p 0 cap, fv] w fun e w' => e = .returned (.tuple #[]) ∧ w' = w) : HPure P G f [.nils, .func g [] []] (.tuple []) := by
  intro h pl M w vs hG hr hv
  obtain ⟨a, b, rfl, hv1, hv2⟩ := args2 hv
  cases hv1
  exact .inl ⟨hE _ _, Calls.mono (hC none 0 b w) fun e w' ⟨he, hw⟩ => ⟨.tuple #[], .tuple [], h, he, ⟨rfl, rfl⟩, pl, M, tuple_rel, by rw [hw]; exact ⟨hr, StepF.refl .., Nat.le_refl _⟩⟩⟩

def ltBy {α : Type} (cmp : α → α → Int) (a b : α) : Bool := decide (cmp a b < 0)

/-- slices.SortFunc of structs, by what the kit says of it. -/
theorem sortFunc_call {f g : FuncId} {sz : Nat} (hGT : GTop G) (hE : ∀ vs w, (callFunc f vs).run P w = .ok (.enter f vs) w) (hg2 : ∀ args w, (callFunc g args).run P w = .ok (.enter g args) w)
    (hC : ∀ (m : Nat) (enc : Fin (m + 1) → List Value) (cf : Fin (m + 1) → Fin (m + 1) → Int) (blk off cap : Nat) (d : Array (Fin (m + 1))) (w : World), (∀ x, (enc x).length = sz) → (∀ x, ∀ v ∈ enc x, v.oneCell' = true) → SWO (ltOf cf) →
      CmpLays P g #[] enc sz cf blk off d.size w → HoldsK enc sz w blk off d → blk < w.heap.size → d.size < 4611686018427387904 →
      Calls P f #[.slice (some ⟨blk, off, none⟩) d.size cap, .func (.func g) #[] #[]] w fun e w' => e = .returned (.tuple #[]) ∧ ∃ d' n os, PermIn 0 d.size d d' ∧ SortedIn (ltOf cf) 0 d.size d' ∧ w' = sortWorldK enc sz w blk off n d' os)
    {α : Type} [Inhabited α] (enc : α → AV) (cmp : α → α → Int) (hO : SWO (ltBy cmp)) (hag : ∀ a, ∃ cs, enc a = .agg cs) (htop : ∀ a, (enc a).top = 0)
    (l : List α) (hcmp : ∀ a, a ∈ l → ∀ b, b ∈ l → HPure P G g [enc a, enc b] (.int .i64 (cmp a b)))
    {oid ep : Nat} {op : Bool} {cap : Option Nat} (hg : h.get oid = some (.row sz op ep (l.map enc))) (hz : 0 < l.length) (hb : l.length < 4611686018427387904) :
    HCall P G f [.slice oid ep 0 l.length cap, .func (.func g) [] []] h (fun v h' => ∃ l' : List α, (l'.Perm l ∧ l'.Pairwise fun a b => ltBy cmp b a = false) ∧ v = .tuple [] ∧ h' = h.put oid (.row sz op ep (l'.map enc))) := by
  intro pl M w vs hG hr hv
  obtain ⟨a, fv, rfl, hv1, hv2⟩ := args2 hv
  have e2 := rel_func hv2
  subst e2
  obtain ⟨p, c, t, cap', hp, hbl, rfl, hm, hsz0, hlt⟩ := slice_whole hr hv1 hg hz
  obtain ⟨m, hm1⟩ : ∃ m, l.length = m + 1 := ⟨l.length - 1, by omega⟩
  have hfit := hm.fit
  rw [List.length_map, Nat.zero_add, hm1] at hfit
  have helem : ∀ i : Fin (m + 1), (l.map enc)[i.1]? = some (enc l[i.1]!) := fun i => by
    have := i.2
    rw [List.getElem?_map, List.getElem?_eq_getElem (by omega), getElem!_pos l i.1 (by omega)]; rfl
  have hmul : ∀ i : Fin (m + 1), i.1 * sz + sz ≤ (m + 1) * sz := fun i => by
    have := Nat.mul_le_mul_right sz (Nat.succ_le_of_lt i.2); rwa [Nat.succ_mul] at this
  generalize hcof : (fun i : Fin (m + 1) => (List.range sz).map fun j => c.getD (i.1 * sz + j) undef) = cellsOf
  have cl : ∀ i, (cellsOf i).length = sz := fun i => by rw [← hcof]; simp
  have cg : ∀ i j, j < sz → (cellsOf i)[j]? = some (c.getD (i.1 * sz + j) undef) := fun i j hj => by rw [← hcof]; simp [hj]
  generalize hd : (Array.ofFn (n := m + 1) id) = d
  have hds : d.size = m + 1 := by rw [← hd]; simp
  have hdg : ∀ j (hj : j < m + 1), d[j]! = ⟨j, hj⟩ := fun j hj => by rw [getElem!_pos d j (by omega)]; subst hd; simp
  have hflat : ∀ (dk : Array (Fin (m + 1))), dk.size = m + 1 → ∀ i j, i < m + 1 → j < sz → (flatK cellsOf sz dk)[i * sz + j]! = c.getD ((dk[i]!).1 * sz + j) undef := fun dk hdk i j hi hj => by
    have h1 : i * sz + j < dk.size * sz := by
      have := Nat.mul_le_mul_right sz (Nat.succ_le_of_lt hi); rw [Nat.succ_mul] at this; rw [hdk]; omega
    rw [get_flatK cellsOf sz dk _ h1]
    have h2 : (i * sz + j) / sz = i := by rw [Nat.mul_comm, Nat.mul_add_div hsz0, Nat.div_eq_of_lt hj, Nat.add_zero]
    have h3 : (i * sz + j) % sz = j := by rw [Nat.mul_comm, Nat.mul_add_mod, Nat.mod_eq_of_lt hj]
    rw [h2, h3, getElem!_pos _ j (by rw [cl]; exact hj)]
    have := cg (dk[i]!) j hj
    rw [List.getElem?_eq_getElem (by rw [cl]; exact hj)] at this
    simpa using this
  have hH : HoldsK cellsOf sz w p.blk 0 d := by
    intro k hk
    rw [size_flatK, hds] at hk
    have hi : k / sz < m + 1 := Nat.div_lt_of_lt_mul (by rw [Nat.mul_comm]; exact hk)
    have hj : k % sz < sz := Nat.mod_lt _ hsz0
    have hk2 : k / sz * sz + k % sz = k := by rw [Nat.mul_comm]; exact Nat.div_add_mod k sz
    have := hflat d hds (k / sz) (k % sz) hi hj
    rw [hdg _ hi, hk2] at this
    rw [this, Nat.zero_add]
    have hkc : k < c.size := by omega
    refine ⟨?_, by simp [World.frozen?, hbl]⟩
    simp only [World.cell?, hbl]
    simp only [Option.isSome_none, Bool.false_eq_true, if_false]
    rw [Array.getElem?_eq_getElem hkc]
    simp [Array.getD, hkc]
  have hrelE : ∀ (i : Fin (m + 1)) cs, enc l[i.1]! = .agg cs → cs.length = sz ∧ (∀ y, y ∈ cs → scalB y = true) ∧ ∀ (j : Nat) (y : AV), cs[j]? = some y → VRel pl M y (c.getD (i.1 * sz + j) undef) := by
    intro i cs hcs
    have h1 := hm.elem _ (List.mem_of_getElem? (helem i))
    rw [hcs] at h1
    refine ⟨h1.1, h1.2, fun j y hj => ?_⟩
    have := hm.cell i.1 _ j y (helem i) (by rw [hcs]; exact hj)
    rwa [Nat.zero_add] at this
  have hone : ∀ i, ∀ v ∈ cellsOf i, v.oneCell' = true := by
    intro i v hvm
    obtain ⟨j, hj, e⟩ := List.getElem_of_mem hvm
    rw [cl] at hj
    have h1 := cg i j hj
    rw [List.getElem?_eq_getElem (by rw [cl]; exact hj), e] at h1
    obtain ⟨cs, hcs⟩ := hag l[i.1]!
    obtain ⟨k1, k2, k3⟩ := hrelE i cs hcs
    have := k3 j cs[j] (List.getElem?_eq_getElem (by omega))
    cases h1
    exact this.one (k2 _ (List.getElem_mem _))
  have hmemL : ∀ i : Fin (m + 1), l[i.1]! ∈ l := fun i => by
    have := i.2
    rw [getElem!_pos l i.1 (by omega)]; exact List.getElem_mem _
  have hlays : CmpLays P g #[] cellsOf sz (fun i j => cmp l[i.1]! l[j.1]!) p.blk 0 d.size w := by
    intro n os dk hdk x y
    generalize hW : sortWorldK cellsOf sz w p.blk 0 n dk os = W
    have hWo : ∀ b, b < w.heap.size → b ≠ p.blk → W.heap[b]? = w.heap[b]? := fun b h1 h2 => by rw [← hW]; exact grow_put_other h1 h2
    have hrW : Rep (fun _ => none) M AHeap.none W := rep_none (pl := fun _ => none) (n := 0) (g := AHeap.none.get) ⟨fun _ _ h => by simp at h, fun _ _ _ h => by simp at h, fun _ _ h => by simp at h, fun _ _ _ _ h => by simp at h, fun b c' hM => by
      obtain ⟨t', fr, q⟩ := hr.imm b c' hM
      refine ⟨t', fr, ?_⟩
      rw [hWo b (hr.memLt hM) (fun e => by have := hr.sep oid p hp; rw [← e, hM] at this; cases this)]
      exact q, fun _ _ h => by simp at h⟩
    have hrel : ∀ i : Fin (m + 1), VRel (fun _ => none) M (enc l[i.1]!) (.agg (cellsOf i).toArray) := by
      intro i
      obtain ⟨cs, hcs⟩ := hag l[i.1]!
      obtain ⟨k1, k2, k3⟩ := hrelE i cs hcs
      have ht := htop l[i.1]!
      rw [hcs] at ht ⊢
      refine .agg (by simp [cl, k1]) k2 fun j y hj => ?_
      have hj' : j < sz := by rw [← k1]; exact (List.getElem?_eq_some_iff.1 hj).1
      have e : (cellsOf i).toArray.getD j undef = c.getD (i.1 * sz + j) undef := by
        have := cg i j hj'
        rw [Array.getD_eq_getD_getElem?, List.getElem?_toArray, this]; rfl
      rw [e]
      exact (k3 j y hj).none (tops_0.1 ht y (List.mem_of_getElem? hj))
    have hc := hcmp _ (hmemL x) _ (hmemL y) AHeap.none (fun _ => none) M W #[.agg (cellsOf x).toArray, .agg (cellsOf y).toArray] (hG.none hGT) hrW ⟨rfl, fun j z hj => by
      match j, hj with
      | 0, hj => cases hj; exact hrel x
      | 1, hj => cases hj; exact hrel y⟩
    rcases hc with ⟨h1, h2⟩ | ⟨cv, w', v, h', h1, h2, h3⟩
    · refine Calls.mono h2 fun e w' ⟨cv, v, h', k1, k2, pl', M', k3, k4, k5, k6⟩ => ?_
      obtain ⟨k2, _⟩ := k2
      subst k2
      cases k3
      refine ⟨k1, ?_⟩
      obtain ⟨q, hq⟩ := regrown_of_below (w := W) (w' := w') ⟨k5.os, k5.tape, k5.out, k5.size, fun b hb => k5.kept b hb fun id p h => by simp at h⟩
      refine ⟨w'.drawn - W.drawn, q.os, ?_⟩
      have hd1 : w'.drawn = q.d := by rw [hq]; rfl
      have hd2 := k5.drawn
      have : redrawn W q.d = W.drewN (w'.drawn - W.drawn) := by
        show ({ W with drawn := q.d } : World) = { W with drawn := W.drawn + (w'.drawn - W.drawn) }
        congr 1; omega
      rw [← this]; exact hq
    · rw [hg2] at h1; cases h1
  refine .inl ⟨hE _ _, ?_⟩
  have hcall := hC m cellsOf (fun i j => cmp l[i.1]! l[j.1]!) p.blk 0 cap' d w cl hone ⟨fun x => hO.irrefl _, fun x y z => hO.trans _ _ _, fun x y z => hO.ntrans _ _ _⟩ hlays hH hlt (by omega)
  rw [show d.size = l.length by omega] at hcall
  refine Calls.mono hcall fun e w' ⟨he, d', n, os, hP, hS, hw⟩ => ?_
  obtain ⟨hp1, _, hp3⟩ := hP
  have hd's : d'.size = m + 1 := by omega
  have hperm : d'.toList.Perm d.toList := by
    have e1 : d'.extract 0 l.length = d' := by rw [show l.length = d'.size by omega]; exact Array.extract_size
    have e2 : d.extract 0 l.length = d := by rw [show l.length = d.size by omega]; exact Array.extract_size
    rwa [e1, e2] at hp3
  have hdl : d.toList.map (fun i => l[i.1]!) = l := by
    apply List.ext_getElem?
    intro i
    by_cases hi : i < l.length
    · rw [List.getElem?_map, Array.getElem?_toList, Array.getElem?_eq_getElem (by omega), List.getElem?_eq_getElem hi]
      have := hdg i (by omega)
      rw [getElem!_pos d i (by omega)] at this
      rw [this]
      show some (l[i]!) = some l[i]
      rw [getElem!_pos l i hi]
    · rw [List.getElem?_eq_none (by simp; omega), List.getElem?_eq_none (by omega)]
  have hl' : (d'.toList.map (fun i => l[i.1]!)).length = l.length := by simp; omega
  refine ⟨.tuple #[], .tuple [], _, he, ⟨d'.toList.map (fun i => l[i.1]!), ⟨?_, ?_⟩, rfl, rfl⟩, pl, M, tuple_rel, ?_⟩
  · have := hperm.map (fun i => l[i.1]!); rwa [hdl] at this
  · rw [List.pairwise_iff_getElem]
    intro i j hi hj hij
    have hi' : i < d'.size := by simpa using hi
    have hj' : j < d'.size := by simpa using hj
    have := hS i j (Nat.zero_le _) hij (by omega)
    rw [getElem!_pos d' i hi', getElem!_pos d' j hj'] at this
    simpa [ltBy, ltOf] using this
  · have hw1 : w'.heap[p.blk]? = some (.cells (putCells id 0 (flatK cellsOf sz d') c) t (0, 0)) := by rw [hw]; exact grow_put_at hbl
    obtain ⟨r1, r2⟩ := Rep.rowNew (w' := w') (xs' := (d'.toList.map (fun i => l[i.1]!)).map enc) hr hp hg hbl hw1 (by simp [putCells]) (by simp; omega) (fun x hx => by
        obtain ⟨z, h1, rfl⟩ := List.mem_map.1 hx
        obtain ⟨i, _, rfl⟩ := List.mem_map.1 h1
        exact hm.elem _ (List.mem_of_getElem? (helem i))) (fun i x j y q1 q2 => by
        rw [List.getElem?_map, List.getElem?_map, Array.getElem?_toList] at q1
        obtain ⟨z, e1, rfl⟩ := Option.map_eq_some_iff.1 q1
        obtain ⟨k, e2, rfl⟩ := Option.map_eq_some_iff.1 e1
        have hi : i < d'.size := (Array.getElem?_eq_some_iff.1 e2).1
        obtain ⟨cs, hcs⟩ := hag l[k.1]!
        obtain ⟨k1, k2, k3⟩ := hrelE k cs hcs
        rw [hcs] at q2
        have hj : j < sz := by rw [← k1]; exact (List.getElem?_eq_some_iff.1 q2).1
        have hb1 : i * sz + j < (m + 1) * sz := by
          have := Nat.mul_le_mul_right sz (Nat.succ_le_of_lt (show i < m + 1 by omega)); rw [Nat.succ_mul] at this; omega
        rw [putCells_getD (by rw [size_flatK, hd's]; exact hb1) (by omega)]
        have := hflat d' hd's i j (by omega) hj
        have e3 : d'[i]! = k := by rw [getElem!_pos d' i hi]; rw [Array.getElem?_eq_getElem hi] at e2; simpa using e2
        rw [e3] at this
        show VRel pl M y (flatK cellsOf sz d')[i * sz + j]!
        rw [this]
        exact k3 j y q2) (by rw [hw]; exact grow_put_same) (by rw [hw]; exact grow_put_size) (fun b hb hne => by rw [hw]; exact grow_put_other hb hne)
    exact ⟨r1, r2, Nat.le_refl _⟩

end
end Go.Ev

/- What is read as data lies in memory as a list of structures: arguments of a law as Lean data. -/
namespace Go.Ev
open Go
section
variable {H : Type} {enc : TypeId × Value → H} {P : Program} {w : World} {base : Nat} {spare : Nat → Bool} {held : Bool}

/-- Values against cells. -/
inductive VL (M : Mem) : List AV → List Value → Prop
  | nil : VL M [] []
  | cons {x : AV} {v : Value} {xs : List AV} {vs : List Value} (h : VRel (fun _ => none) M x v) (t : VL M xs vs) : VL M (x :: xs) (v :: vs)
theorem VL.append {M : Mem} {xs ys : List AV} {a b : List Value} (h : VL M xs a) (k : VL M ys b) : VL M (xs ++ ys) (a ++ b) := by
  induction h with
  | nil => exact k
  | cons h _ ih => exact .cons h ih
theorem VL.len {M : Mem} {xs : List AV} {a : List Value} (h : VL M xs a) : xs.length = a.length := by
  induction h with
  | nil => rfl
  | cons _ _ ih => simp [ih]
theorem VL.at_ {M : Mem} {xs : List AV} {a : List Value} (h : VL M xs a) : ∀ (j : Nat) (y : AV), xs[j]? = some y → ∃ v, a[j]? = some v ∧ VRel (fun _ => none) M y v := by
  induction h with
  | nil => intro j y hj; simp at hj
  | cons h _ ih =>
    intro j y hj
    cases j with
    | zero => simp at hj; subst hj; exact ⟨_, rfl, h⟩
    | succ j => simp at hj; simpa using ih j y hj
theorem VL.one {M : Mem} {x : AV} {cs : List Value} (h : VL M [x] cs) : ∃ v, cs = [v] ∧ VRel (fun _ => none) M x v := by
  cases h with
  | cons h t => cases t; exact ⟨_, rfl, h⟩

/-- Nothing met in reading it takes more than there are addresses. -/
def Wt (P : Program) (t : TypeId) (d : DataW H) : Prop := ∀ m, m ∈ d.weights P t → m ≤ reachBytes
theorem weightsAll_mem {e : TypeId} {d : DataW H} {m : Nat} (hm : m ∈ d.weights P e) : ∀ {l : List (DataW H)}, d ∈ l → m ∈ DataW.weightsAll P e l
  | [], h => by cases h
  | a :: r, h => by
    unfold DataW.weightsAll
    rcases List.mem_cons.1 h with rfl | h
    · exact List.mem_append_left _ hm
    · exact List.mem_append_right _ (weightsAll_mem hm h)
theorem weightsEach_mem {t : TypeId} {d : DataW H} {m : Nat} (hm : m ∈ d.weights P t) : ∀ {ts : List TypeId} {l : List (DataW H)} (i : Nat), ts[i]? = some t → l[i]? = some d → m ∈ DataW.weightsEach P ts l
  | [], _, i, h, _ => by simp at h
  | _ :: _, [], i, _, h => by simp at h
  | u :: ts, a :: r, i, h1, h2 => by
    unfold DataW.weightsEach
    cases i with
    | zero => simp at h1 h2; subst h1; subst h2; exact List.mem_append_left _ hm
    | succ i => exact List.mem_append_right _ (weightsEach_mem hm i (by simpa using h1) (by simpa using h2))

/-- Fields lie one behind the other. -/
def consec (P : Program) : List Field → Nat → Nat → Bool
  | [], off, n => Nat.beq off n
  | f :: r, off, n => Nat.beq f.offset off && consec P r (off + P.cellsOf f.type) n
def VF (M : Mem) (P : Program) (cs : List Value) : List Field → List (List AV) → Prop
  | [], [] => True
  | f :: fs, xs :: xss => VL M xs ((cs.drop f.offset).take (P.cellsOf f.type)) ∧ VF M P cs fs xss
  | _, _ => False
theorem VF.vl {M : Mem} {cs : List Value} : ∀ {fs : List Field} {xss : List (List AV)} {off : Nat}, consec P fs off cs.length = true → VF M P cs fs xss → VL M xss.flatten (cs.drop off)
  | [], [], off, h, _ => by
    have := Nat.eq_of_beq_eq_true h
    rw [this, List.drop_length]; exact .nil
  | [], _ :: _, _, _, h => h.elim
  | _ :: _, [], _, _, h => h.elim
  | f :: fs, xs :: xss, off, h, k => by
    unfold consec at h
    rw [Bool.and_eq_true] at h
    have ho := Nat.eq_of_beq_eq_true h.1
    have h1 := k.1
    rw [ho] at h1
    have h2 := VF.vl h.2 k.2
    have e : cs.drop off = (cs.drop off).take (P.cellsOf f.type) ++ cs.drop (off + P.cellsOf f.type) := by
      rw [← List.drop_drop, List.take_append_drop]
    rw [List.flatten_cons, e]
    exact h1.append h2
/-- Each field is read as data. -/
def TF (enc : TypeId × Value → H) (P : Program) (w : World) (base : Nat) (spare : Nat → Bool) (held : Bool) (n : Nat) (cs : List Value) : List Field → Prop
  | [] => True
  | f :: fs => (∃ d p, DataW.trod enc P w base spare held n f.type ((cs.drop f.offset).take (P.cellsOf f.type)) = some (d, p) ∧ Wt P f.type d) ∧ TF enc P w base spare held n cs fs
theorem TF_of {n : Nat} {cs : List Value} : ∀ (fs : List Field), (∀ (i : Nat) (f : Field), fs[i]? = some f → ∃ d p, DataW.trod enc P w base spare held n f.type ((cs.drop f.offset).take (P.cellsOf f.type)) = some (d, p) ∧ Wt P f.type d) → TF enc P w base spare held n cs fs
  | [], _ => trivial
  | f :: fs, h => ⟨h 0 f rfl, TF_of fs fun i g hg => h (i + 1) g (by simpa using hg)⟩
theorem struct_vl {t : TypeId} {fs : Array Field} {fuel : Nat} {cs : List Value} {d : DataW H} {p : List MemPlace} (hu : P.underlying t = some (.struct fs)) (hc : consec P fs.toList 0 (P.cellsOf t) = true)
    (h : DataW.trod enc P w base spare held fuel t cs = some (d, p)) (hw : Wt P t d) :
    ∃ n, fuel = n + 1 ∧ TF enc P w base spare held n cs fs.toList ∧ ∀ xss, VF (memOf w) P cs fs.toList xss → VL (memOf w) xss.flatten cs := by
  obtain ⟨xs, n, rfl, h1, h2, h3, h4⟩ := DataW.trod_struct hu h
  simp only [Prod.mk.injEq] at h1
  obtain ⟨rfl, _⟩ := h1
  refine ⟨n, rfl, TF_of _ fun i f hf => ?_, fun xss hx => ?_⟩
  · have hf' : fs[i]? = some f := by simpa using hf
    have hi : i < xs.length := by rw [h3]; exact (Array.getElem?_eq_some_iff.1 hf').1
    have e := h4 i f hf'
    rw [List.getElem?_eq_getElem hi] at e
    refine ⟨xs[i].1, xs[i].2, e, fun m hm => hw m ?_⟩
    unfold DataW.weights
    rw [hu]
    exact weightsEach_mem hm i (by rw [List.getElem?_map, hf]; rfl) (by rw [List.getElem?_map, List.getElem?_eq_getElem hi]; rfl)
  · have := VF.vl (off := 0) (by rw [h2]; exact hc) hx
    simpa using this

theorem int_vl {t : TypeId} {fuel : Nat} {cs : List Value} {d : DataW H} {p : List MemPlace} (hu : P.underlying t = some (.int .i64)) (h : DataW.trod enc P w base spare held fuel t cs = some (d, p)) : ∃ x, VL (memOf w) [.int .i64 x] cs := by
  obtain ⟨x, rfl, _⟩ := DataW.trod_int hu h
  exact ⟨x, .cons (.int _ _) .nil⟩
theorem str_vl {t : TypeId} {fuel : Nat} {cs : List Value} {d : DataW H} {p : List MemPlace} (hu : P.underlying t = some .string) (h : DataW.trod enc P w base spare held fuel t cs = some (d, p)) : ∃ s, VL (memOf w) [.str s] cs := by
  obtain ⟨⟨⟨s⟩⟩, rfl, _⟩ := DataW.trod_string hu h
  exact ⟨s, .cons (.str _) .nil⟩

theorem list_of {α : Type} {Q : Nat → α → Prop} : ∀ (n : Nat), (∀ i, i < n → ∃ x, Q i x) → ∃ l : List α, l.length = n ∧ ∀ i x, l[i]? = some x → Q i x
  | 0, _ => ⟨[], rfl, fun i x h => by simp at h⟩
  | n + 1, h => by
    obtain ⟨l, h1, h2⟩ := list_of n fun i hi => h i (by omega)
    obtain ⟨y, hy⟩ := h n (by omega)
    refine ⟨l ++ [y], by simp [h1], fun i x hx => ?_⟩
    by_cases hi : i < l.length
    · rw [List.getElem?_append_left hi] at hx; exact h2 i x hx
    · rw [List.getElem?_append_right (by omega)] at hx
      have : i - l.length = 0 := by
        cases hq : i - l.length with
        | zero => rfl
        | succ k => rw [hq] at hx; simp at hx
      rw [this] at hx; simp at hx; subst hx
      have : i = n := by omega
      rw [this]; exact hy

theorem Sc_of {x : AV} (h : x.cells.all scalB = true) : Sc x := fun y hy => List.all_eq_true.1 h y hy

theorem slice_vl {α : Type} (el : α → AV) (fit : α → Prop) {t e : TypeId} {fuel : Nat} {cs : List Value} {d : DataW H} {p : List MemPlace} (hu : P.underlying t = some (.slice e)) (hsz : Nat.blt 0 (P.cellsOf e) = true) (hby : Nat.blt 0 (P.bytesOf e) = true)
    (hel : ∀ x, (el x).cells.length = P.cellsOf e) (hsc : ∀ x, (el x).cells.all scalB = true) (htop : ∀ x, (el x).top = 0)
    (hrec : ∀ m, m < fuel → ∀ cs d p, DataW.trod enc P w base spare held m e cs = some (d, p) → Wt P e d → ∃ x, fit x ∧ VL (memOf w) (el x).cells cs)
    (h : DataW.trod enc P w base spare held fuel t cs = some (d, p)) (hw : Wt P t d) :
    ∃ l : List α, l.length < 2 ^ 60 ∧ (∀ x, x ∈ l → fit x) ∧ VL (memOf w) [.ls (l.map el)] cs := by
  rw [blt_iff] at hsz hby
  simp only [decide_eq_true_eq] at hsz hby
  rcases DataW.trod_slice hu h with ⟨rfl, _⟩ | ⟨a, len, cap, elems, rest, n, rfl, rfl, h1, h2, h3, h4, h5, h6, _, _⟩
  · exact ⟨[], Nat.two_pow_pos 60, fun x h => absurd h (List.not_mem_nil), .cons .lsn .nil⟩
  · simp only [Prod.mk.injEq] at h1
    obtain ⟨rfl, _⟩ := h1
    have hwl : len < 2 ^ 60 := by
      have := hw ((elems.length + rest.length) * P.bytesOf e) (by
        unfold DataW.weights
        rw [hu]
        simp)
      have h7 : elems.length ≤ (elems.length + rest.length) * P.bytesOf e := Nat.le_trans (Nat.le_add_right _ _) (Nat.le_mul_of_pos_right _ hby)
      have : elems.length ≤ reachBytes := Nat.le_trans h7 this
      rw [h5] at this
      exact Nat.lt_of_le_of_lt this (by decide)
    have el0 : ∀ i, i < len → ∃ x, fit x ∧ ∃ cs : List Value, cs.length = P.cellsOf e ∧ (∀ j, j < P.cellsOf e → w.cell? ((a.add (i * P.cellsOf e)).add j) = cs[j]?) ∧ VL (memOf w) (el x).cells cs := by
      intro i hi
      have k5 := h6 i hi
      have hi' : i < elems.length := by omega
      rw [List.getElem?_eq_getElem hi'] at k5
      simp only [Option.bind_eq_some_iff] at k5
      obtain ⟨cs, c1, c2⟩ := k5
      obtain ⟨z1, z2⟩ := cells?_at c1
      obtain ⟨x, f1, f2⟩ := hrec n (by omega) cs elems[i].1 elems[i].2 c2 (fun m hm => hw m (by
        unfold DataW.weights
        rw [hu]
        exact List.mem_cons_of_mem _ (List.mem_append_left _ (weightsAll_mem hm (List.mem_map.2 ⟨elems[i], List.getElem_mem hi', rfl⟩)))))
      exact ⟨x, f1, cs, z1, z2, f2⟩
    obtain ⟨l, q1, q2⟩ := list_of len el0
    refine ⟨l, by omega, fun x hx => ?_, .cons ?_ .nil⟩
    · obtain ⟨i, hi⟩ := List.mem_iff_getElem?.1 hx
      exact (q2 i x hi).1
    · have q1' : (l.map el).length = len := by rw [List.length_map, q1]
      generalize hys : l.map el = ys at *
      have q3 : ∀ i y, ys[i]? = some y → ∃ cs : List Value, cs.length = P.cellsOf e ∧ (∀ j, j < P.cellsOf e → w.cell? ((a.add (i * P.cellsOf e)).add j) = cs[j]?) ∧ VL (memOf w) y.cells cs := by
        intro i y hy
        rw [← hys, List.getElem?_map, Option.map_eq_some_iff] at hy
        obtain ⟨x, hx, rfl⟩ := hy
        exact (q2 i x hx).2
      have q4 : ∀ y, y ∈ ys → y.cells.length = P.cellsOf e ∧ Sc y := by
        intro y hy
        rw [← hys, List.mem_map] at hy
        obtain ⟨x, _, rfl⟩ := hy
        exact ⟨hel x, Sc_of (hsc x)⟩
      have q5 : AV.tops ys = 0 := by rw [← hys]; exact tops_map htop l
      have addadd : ∀ i j : Nat, a.spot = none → (a.add i).add j = ⟨a.block, a.off + i + j, none⟩ := by
        intro i j hs
        obtain ⟨blk, off, spot⟩ := a
        simp at hs
        subst hs
        by_cases hi : i = 0 <;> by_cases hj : j = 0 <;> simp [Addr.add, hi, hj]
      have spot : ys ≠ [] → a.spot = none := by
        intro hne
        obtain ⟨x, hx⟩ : ∃ x, ys[0]? = some x := by
          cases ys with
          | nil => exact absurd rfl hne
          | cons x r => exact ⟨x, rfl⟩
        obtain ⟨cs, c1, c2, _⟩ := q3 0 x hx
        have := c2 0 hsz
        rw [List.getElem?_eq_getElem (by omega)] at this
        simp only [Nat.zero_mul] at this
        have := (cell?_mem this).1
        simpa [Addr.add] using this
      have cell : ∀ (i j : Nat) (x : AV), ys[i]? = some x → j < P.cellsOf e → ∃ c v, memOf w a.block = some c ∧ c[a.off + i * P.cellsOf e + j]? = some v ∧ ∀ y, x.cells[j]? = some y → VRel (fun _ => none) (memOf w) y v := by
        intro i j x hx hj
        obtain ⟨cs, c1, c2, c3⟩ := q3 i x hx
        have := c2 j hj
        rw [List.getElem?_eq_getElem (by omega), addadd _ _ (spot (by intro h; rw [h] at hx; simp at hx))] at this
        obtain ⟨_, c, m1, m2⟩ := cell?_mem this
        refine ⟨c, _, m1, m2, fun y hy => ?_⟩
        obtain ⟨v, g1, g2⟩ := c3.at_ j y hy
        rw [List.getElem?_eq_getElem (by omega)] at g1
        cases g1
        exact g2
      refine .lsp ?_ q5
      by_cases hne : ys = []
      · subst hne
        simp at q1'
        subst q1'
        exact .ps (sz := P.cellsOf e) (c := #[]) (by simp) (fun h => by cases h) (fun h => absurd rfl h) (fun x h => by simp at h) (fun i x j y h => by simp at h)
      · have hlen : 0 < ys.length := List.length_pos_iff.2 hne
        obtain ⟨x0, hx0⟩ : ∃ x, ys[ys.length - 1]? = some x := ⟨ys[ys.length - 1], by simp⟩
        obtain ⟨c, v0, m1, m2, _⟩ := cell (ys.length - 1) (P.cellsOf e - 1) x0 hx0 (by omega)
        have hc := (Array.getElem?_eq_some_iff.1 m2).1
        have hfit : a.off + ys.length * P.cellsOf e ≤ c.size := by
          have h1 : (ys.length - 1) * P.cellsOf e + P.cellsOf e = ys.length * P.cellsOf e := by
            rw [← Nat.succ_mul]; congr 1; omega
          omega
        have := VRel.ps (pl := fun _ => none) (M := memOf w) (xs := ys) (tight := false) (a := a) (cap := cap) (sz := P.cellsOf e) (c := c) (by omega) (fun h => by cases h) (fun _ => ⟨spot hne, m1, hfit, hsz⟩) q4
          (fun i x j y hx hy => by
            obtain ⟨r1, _⟩ := q4 x (List.mem_of_getElem? hx)
            have hj : j < P.cellsOf e := by rw [← r1]; exact (List.getElem?_eq_some_iff.1 hy).1
            obtain ⟨c', v, n1, n2, n3⟩ := cell i j x hx hj
            rw [m1] at n1
            cases n1
            rw [Array.getD_eq_getD_getElem?, n2]
            exact n3 y hy)
        rw [q1'] at this
        exact this
end
end Go.Ev

/- Words counted by the act that wrote them. -/
namespace Go.Ev
open Go

structure PPair where
  a : Int
  b : Int
deriving Inhabited, DecidableEq
structure PRef where
  act : Int
  item : Int
deriving Inhabited, DecidableEq
/-- Keys stand once. -/
def Keys (m : List (Int × Int)) : Prop := (m.map (·.1)).Nodup
theorem Keys.get {k v : Int} : ∀ {m : List (Int × Int)}, Keys m → (k, v) ∈ m → getI k m = some v
  | [], _, h => by cases h
  | (i, x) :: r, hk, h => by
    unfold Keys at hk
    rw [List.map_cons, List.nodup_cons] at hk
    simp only [getI]
    rcases List.mem_cons.1 h with h1 | h1
    · cases h1; rw [eqI_refl]
    · have hne : ¬ k = i := fun e => hk.1 (e ▸ List.mem_map.2 ⟨_, h1, rfl⟩)
      have e : eqI k i = false := by rw [eqI_iff]; exact decide_eq_false hne
      rw [e]; exact Keys.get hk.2 h1
theorem setI_keys (j v : Int) : ∀ (m : List (Int × Int)), (setI j v m).map (·.1) = if j ∈ m.map (·.1) then m.map (·.1) else m.map (·.1) ++ [j]
  | [] => by simp [setI]
  | (i, x) :: r => by
    simp only [setI]
    by_cases h : j = i
    · subst h; simp [eqI_refl]
    · have e : eqI j i = false := by rw [eqI_iff]; exact decide_eq_false h
      simp only [e, List.map_cons, setI_keys j v r, List.mem_cons, h, false_or]
      split <;> simp
theorem Keys.set {m : List (Int × Int)} (h : Keys m) (j v : Int) : Keys (setI j v m) := by
  unfold Keys at *
  rw [setI_keys]
  split
  · exact h
  · rename_i hn
    rw [List.nodup_append]
    refine ⟨h, by simp, fun a ha b hb => ?_⟩
    simp at hb; subst hb
    exact fun e => hn (e ▸ ha)
theorem Keys.nil : Keys [] := List.nodup_nil

/-- Places of a list, each once, all of them. -/
theorem nodup_bound : ∀ (n : Nat) (s : List Nat), s.Nodup → (∀ i, i ∈ s → i < n) → s.length ≤ n
  | 0, s, _, h => by
    cases s with
    | nil => exact Nat.le_refl _
    | cons x r => exact absurd (h x (List.mem_cons_self ..)) (by omega)
  | n + 1, s, hs, h => by
    have h1 := nodup_bound n (s.erase n) (hs.erase n) fun i hi => by
      have h2 := (hs.mem_erase_iff).1 hi
      have := h i h2.2
      have := h2.1
      omega
    have := List.length_erase (a := n) (l := s)
    split at this <;> omega
theorem all_perm {n : Nat} {s : List Nat} (hs : s.Nodup) (h : ∀ i, i ∈ s → i < n) (hd : ∀ i, i < n → i ∈ s) : s.Perm (List.range n) :=
  (List.perm_ext_iff_of_nodup hs List.nodup_range).2 fun i => ⟨fun hi => List.mem_range.2 (h i hi), fun hi => hd i (List.mem_range.1 hi)⟩
theorem range_map {α : Type} [Inhabited α] (l : List α) : (List.range l.length).map (gD l) = l := by
  refine List.ext_getElem (by simp) fun i h1 h2 => ?_
  simp [gD, List.getD, List.getElem?_eq_getElem h2]
theorem nodup_snoc {s : List Nat} {i : Nat} (h : s.Nodup) (hi : ¬ i ∈ s) : (s ++ [i]).Nodup := by
  rw [List.nodup_append]
  exact ⟨h, by simp, fun a ha b hb e => by simp at hb; subst hb; subst e; exact hi ha⟩
/- Trees of little weight. -/
section
variable {u w' : TUnit} {ws : List PWord} {w : PWord} {r : List PWord} {ks : List TUnit} {m x : List (Int × Int)} {c B : Int}
end

theorem VRels.first {pl : Pl} {M : Mem} {x y z : AV} {r : List AV} {vs : Array Value} (h : VRels pl M (z :: r) vs) (hs : ∀ v, VRel pl M z v → VRel pl M x v ∨ VRel pl M y v) : VRels pl M (x :: r) vs ∨ VRels pl M (y :: r) vs := by
  obtain ⟨h1, h2⟩ := h
  have lift : ∀ u, VRel pl M u (vs.getD 0 undef) → VRels pl M (u :: r) vs := fun u hu => ⟨h1, fun j y hj => by
    cases j with
    | zero => simp at hj; subst hj; exact hu
    | succ j => exact h2 (j + 1) y (by simpa using hj)⟩
  exact (hs _ (h2 0 z rfl)).imp (lift x) (lift y)
end Go.Ev

/- Counts by act, out of a map or one after the other. -/
namespace Go.Ev
open Go

theorem small_le {n b m : Nat} (h1 : n ≤ m) (h2 : m ≤ 2 ^ 40) (h3 : m * b ≤ 2 ^ 40) : small n b = true := by
  unfold small
  have h4 : n * b ≤ m * b := Nat.mul_le_mul_right b h1
  simp only [Bool.and_eq_true]
  exact ⟨Nat.ble_eq_true_of_le (Nat.le_trans h1 h2), Nat.ble_eq_true_of_le (Nat.le_trans h4 h3)⟩

theorem seen_len {seen : List Nat} {i n : Nat} (hn : seen.Nodup) (hb : ∀ i, i ∈ seen → i < n) (hi : i < n) (hs : ¬ i ∈ seen) : seen.length < n := by
  have := nodup_bound n (seen ++ [i]) (nodup_snoc hn hs) (fun j hj => by
    rcases List.mem_append.1 hj with h | h
    · exact hb j h
    · simp at h; omega)
  simp at this
  omega

end Go.Ev

/- What has been drawn never falls: a step of the machine draws no less. -/
namespace Go.Ev
open Go

def resW {α : Type} : Result α → World
  | .ok _ w => w
  | .halt _ w => w
def gW : GStep → World
  | .go _ w _ => w
  | .comm _ _ _ _ w _ => w
  | .spawn _ _ w _ => w
  | .count _ w _ => w
  | .timer _ _ w _ => w
  | .alone _ _ w _ => w
  | .newcoro _ _ _ w _ => w
  | .coroswitch _ _ _ w _ => w
  | .collect _ w _ => w
  | .watch _ w _ => w
  | .ended _ w _ => w
theorem gW_after (es : Array Event) (g : GStep) : gW (GStep.after es g) = gW g := by cases g <;> rfl

theorem ask_le {α : Type} : ∀ (q : Ask α) (w : World), w.drawn ≤ (w.ask q).2.drawn
  | .done a, w => Nat.le_refl _
  | .ask what range k, w => by
    rw [World.ask]
    split
    · exact ask_le (k 0) w
    · exact Nat.le_trans (Nat.le_succ _) (ask_le _ { w with drawn := w.drawn + 1 })
theorem sys_le (w : World) (c : Sys) : w.drawn ≤ (w.sys c).2.drawn := by
  unfold World.sys
  have h := ask_le (Kernel.perform c w.os) w
  split
  · exact Nat.le_refl _
  · rename_i e; rw [e] at h; exact h
theorem viewStore_drawn {p : Program} {w w' : World} {at_ : Addr} {u : TypeId} {k : Addr} {v : Value} {b : Bool} {l : List Addr} (h : w.viewStore p at_ u k v b = .ok (w', l)) : w'.drawn = w.drawn := by
  unfold World.viewStore at h
  simp only [bind, Except.bind, pure, Except.pure] at h
  repeat' split at h
  all_goals first | cases h; done | (injection h with h; injection h with h1 h2; rw [← h1])
theorem farStore_drawn {p : Program} {w w' : World} {a : Addr} {v : Value} {b : Bool} {l : List Addr} (h : w.farStore p a v b = .ok (w', l)) : w'.drawn = w.drawn := by
  unfold World.farStore at h
  repeat' split at h
  all_goals first | cases h; done | (cases h; rename_i e; exact viewStore_drawn e)
theorem freeze_drawn (w : World) (a : Addr) (n : Nat) : (w.freeze a n).drawn = w.drawn := by unfold World.freeze; split <;> rfl
theorem run_le (p : Program) {α : Type} (s : Sem α) : ∀ (w : World), w.drawn ≤ (resW (s.run p w)).drawn := by
  induction s with
  | pure a => exact fun w => Nat.le_refl _
  | load m a k ih =>
    intro w
    simp only [Sem.run]
    repeat' split
    all_goals first | exact ih _ _ | exact Nat.le_refl _
  | store m a v k ih =>
    intro w
    cases v
    all_goals simp only [Sem.run]
    all_goals first
      | exact Nat.le_refl _
      | (repeat' split
         all_goals first | exact Nat.le_refl _ | exact ih (w.setCell _ _) | (rename_i e; refine Nat.le_trans ?_ (ih _); rw [farStore_drawn e]; exact Nat.le_refl _))
  | new o k ih => intro w; simp only [Sem.run]; exact ih w.heap.size { w with heap := w.heap.push o }
  | shape r k ih => intro w; simp only [Sem.run]; exact ih _ _
  | freeze a n k ih => intro w; simp only [Sem.run]; refine Nat.le_trans ?_ (ih _); rw [freeze_drawn]; exact Nat.le_refl _
  | frozen a k ih => intro w; simp only [Sem.run]; exact ih _ _
  | getObj r k ih =>
    intro w
    simp only [Sem.run]
    repeat' split
    all_goals first | exact ih _ _ | exact Nat.le_refl _
  | setObj r o k ih =>
    intro w
    simp only [Sem.run]
    repeat' split
    all_goals first | exact ih { w with heap := w.heap.setIfInBounds r o } | exact Nat.le_refl _
  | choose q k ih =>
    intro w
    simp only [Sem.run]
    split
    · exact ih _ _
    · exact Nat.le_trans (Nat.le_succ _) (ih _ { w with drawn := w.drawn + 1 })
  | sys c k ih => intro w; simp only [Sem.run]; exact Nat.le_trans (sys_le w c) (ih _ _)
  | program k ih => intro w; simp only [Sem.run]; exact ih _ _
  | mark m k ih => intro w; simp only [Sem.run]; exact ih _
  | halt h => exact fun w => Nat.le_refl _
theorem run_le' {p : Program} {α : Type} {s : Sem α} {w : World} {r : Result α} (h : s.run p w = r) : w.drawn ≤ (resW r).drawn := h ▸ run_le p s w
theorem runT_le {p : Program} {α : Type} {s : Sem α} {w : World} {es es' : Array Event} {r : Result α} (h : s.runT p w es = (r, es')) : w.drawn ≤ (resW r).drawn := by
  have := Sem.runT_fst p s w es
  rw [h] at this
  exact run_le' this.symm

theorem endWith_le (w : World) (fd : Nat) (text : ByteArray) (o : Outcome) : w.drawn ≤ (gW (endWith w fd text o)).drawn := by
  unfold endWith
  simp only []
  have h := sys_le w (.write fd text)
  split
  all_goals (rename_i e; rw [e] at h)
  all_goals repeat' split
  all_goals exact h
theorem endThrow_le (fr : Frame) (m : String) (w : World) : w.drawn ≤ (gW (endThrow fr m w)).drawn := Nat.le_refl _
theorem endPrinting_le (p : Program) (fr : Frame) (v : Value) (w : World) : w.drawn ≤ (gW (endPrinting p fr v w)).drawn := by
  unfold endPrinting
  simp only []
  repeat' split
  all_goals exact Nat.le_refl _
theorem endFatal_le (p : Program) (fr : Frame) (cs : List Frame) (d : Option Dying) (m : String) (w : World) : w.drawn ≤ (gW (endFatal p fr cs d m w)).drawn := by
  unfold endFatal
  simp only []
  split
  all_goals (rename_i e; exact run_le' e)
theorem writeOn_le (p : Program) (fr : Frame) (d : Dying) (f : Fatal) (w : World) : w.drawn ≤ (gW (writeOn p fr d f w)).drawn := by
  unfold writeOn
  split
  · exact Nat.le_refl _
  · simp only []
    split
    all_goals (rename_i e; exact runT_le e)
theorem die_le (p : Program) (fr : Frame) (d : Dying) (w : World) : w.drawn ≤ (gW (die p fr d w)).drawn := by
  unfold die
  split
  · exact writeOn_le ..
  · split
    · split
      · exact Nat.le_refl _
      · exact endWith_le ..
    · simp only []
      split
      · exact Nat.le_refl _
      · split
        all_goals (rename_i e; exact run_le' e)
      · rw [gW_after]
        split
        all_goals first | (rename_i e; exact run_le' ((Sem.runT_fst ..).symm.trans e)) | skip
        · rename_i e; exact Nat.le_trans (run_le' ((Sem.runT_fst ..).symm.trans e)) (endPrinting_le ..)
        · exact Nat.le_refl _
      · exact Nat.le_refl _
theorem doReturn_le (p : Program) (main : Bool) (fr : Frame) (cs : List Frame) (d : Option Dying) (v : Value) (w : World) : w.drawn ≤ (gW (doReturn p main fr cs d v w)).drawn := by
  unfold doReturn
  repeat' split
  all_goals exact Nat.le_refl _


theorem ite_gW {c : Prop} [Decidable c] {a b : GStep} {n : Nat} (h1 : n ≤ (gW a).drawn) (h2 : n ≤ (gW b).drawn) : n ≤ (gW (if c then a else b)).drawn := by split <;> assumption
theorem callDeferred_le (p : Program) (fr : Frame) (cs : List Frame) (dy : Option Dying) (d : Deferred) (w : World) : w.drawn ≤ (gW (callDeferred p fr cs dy d w)).drawn := by
  unfold callDeferred
  refine ite_gW ?_ ?_
  · exact Nat.le_refl _
  · simp only []
    rw [gW_after]
    split
    all_goals (rename_i e; have h := run_le' ((Sem.runT_fst ..).symm.trans e))
    all_goals first | exact h | exact Nat.le_trans h (endFatal_le ..) | ((repeat' split) <;> exact h)
theorem unwind_le (p : Program) (main : Bool) (fr : Frame) (cs : List Frame) (dy : Option Dying) (w : World) : w.drawn ≤ (gW (unwind p main fr cs dy w)).drawn := by
  unfold unwind
  split
  · simp only []
    rw [gW_after]
    split
    all_goals (rename_i e; exact run_le' ((Sem.runT_fst ..).symm.trans e))
  · exact callDeferred_le ..
  · split
    · exact Nat.le_refl _
    · split
      · exact Nat.le_refl _
      · split
        · exact Nat.le_refl _
        · split
          · split
            · exact Nat.le_refl _
            · split
              all_goals (rename_i e; exact run_le' e)
          · split
            · exact endPrinting_le ..
            · exact Nat.le_refl _
    · split
      · exact doReturn_le ..
      · simp only []
        rw [gW_after]
        split
        all_goals (rename_i e; have h := run_le' ((Sem.runT_fst ..).symm.trans e))
        all_goals first | exact h | exact Nat.le_trans h (doReturn_le ..)
theorem early_le (p : Program) (fr : Frame) (cs : List Frame) (dy : Option Dying) (g : Nat) (w : World) : w.drawn ≤ (gW (early p fr cs dy g w)).drawn := by
  unfold early
  simp only []
  repeat' split
  all_goals first | exact Nat.le_refl _ | (rename_i e; exact run_le' e) | (rename_i e _; exact run_le' e) | (rename_i e _ _; exact run_le' e) | (rename_i e _ _ _ _; exact run_le' e)
theorem apply_le (p : Program) (listen : Bool) (fr : Frame) (cs : List Frame) (dy : Option Dying) (s : Sem Next) (w : World) : w.drawn ≤ (gW (stepG.apply p listen fr cs dy s w)).drawn := by
  unfold stepG.apply
  simp only []
  rw [gW_after]
  have h0 : w.drawn ≤ (resW (if listen = true then Sem.runT p s w #[] else (Sem.run p s w, #[])).fst).drawn := by
    cases listen
    · exact run_le ..
    · exact run_le' (Sem.runT_fst ..).symm
  generalize (if listen = true then Sem.runT p s w #[] else (Sem.run p s w, #[])).fst = r at h0 ⊢
  split
  all_goals first | exact h0 | exact Nat.le_trans h0 (endFatal_le ..) | exact Nat.le_trans h0 (early_le ..) | exact Nat.le_trans h0 (endThrow_le ..) | skip
  all_goals repeat' split
  all_goals first | exact h0 | exact Nat.le_trans h0 (endThrow_le ..) | skip
theorem oper_le (p : Program) (listen : Bool) (fr : Frame) (cs : List Frame) (dy : Option Dying) (w : World) : w.drawn ≤ (gW (stepG.oper p listen fr cs dy w)).drawn := by
  unfold stepG.oper
  split
  · exact Nat.le_refl _
  · split
    all_goals exact apply_le ..
theorem exec_le (p : Program) (main listen : Bool) (fr : Frame) (cs : List Frame) (dy : Option Dying) (w : World) : w.drawn ≤ (gW (stepG.exec p main listen fr cs dy w)).drawn := by
  have lv : ∀ (l : Nat) (jump : Option Code), w.drawn ≤ (gW (GStep.after (seen p fr.fn ((Instr.endRound l jump).runT p w #[]).snd) (match ((Instr.endRound l jump).runT p w #[]).fst with | .ok v w => doReturn p main fr cs dy v w | .halt _ w => .ended (.stuck "range over a function: no such loop" (fr.pos p)) w))).drawn := by
    intro l jump
    rw [gW_after]
    have h0 := run_le' (Sem.runT_fst p (Instr.endRound l jump) w #[]).symm
    split
    all_goals (rename_i e; rw [e] at h0)
    · exact Nat.le_trans h0 (doReturn_le ..)
    · exact h0
  unfold stepG.exec
  simp only []
  split
  all_goals first | exact Nat.le_refl _ | exact apply_le .. | skip
  · split
    · exact ite_gW (Nat.le_refl _) (Nat.le_refl _)
    · exact lv _ _
  · split
    · exact ite_gW (Nat.le_refl _) (Nat.le_refl _)
    · exact lv _ _
  · split <;> exact Nat.le_refl _
  · rename_i id k _
    cases exitTo id k with
    | none => simp only [Option.elim]; split; exact ite_gW (Nat.le_refl _) (Nat.le_refl _); exact lv _ _
    | some k' => exact Nat.le_refl _
  · rename_i id k _
    cases gotoIn id k with
    | none => simp only [Option.elim]; split; exact ite_gW (Nat.le_refl _) (Nat.le_refl _); exact lv _ _
    | some k' => exact Nat.le_refl _
  · rw [gW_after]
    split
    · rename_i e; exact Nat.le_trans (run_le' ((Sem.runT_fst ..).symm.trans e)) (apply_le ..)
    · rename_i e; exact run_le' ((Sem.runT_fst ..).symm.trans e)
  · rw [gW_after]
    split <;> rename_i e <;> exact run_le' ((Sem.runT_fst ..).symm.trans e)
  · rename_i row _ _ _
    cases Extern.next row with
    | none => exact Nat.le_refl _
    | some e => exact apply_le ..
  · refine ite_gW (Nat.le_refl _) ?_
    split <;> rename_i e <;> exact run_le' e
  · exact ite_gW (oper_le ..) (Nat.le_refl _)
theorem stepG_le (p : Program) (main listen : Bool) (g : Goroutine) (w : World) : w.drawn ≤ (gW (stepG p main g w listen)).drawn := by
  unfold stepG
  simp only []
  split
  · exact die_le ..
  · exact exec_le ..
  · exact unwind_le ..


def sD (n : Nat) : Stepped → Prop
  | .next m => n ≤ m.world.drawn
  | .ended _ _ => True
theorem sD.trans {n k : Nat} {s : Stepped} (h : n ≤ k) (g : sD k s) : sD n s := by
  cases s with
  | next m => exact Nat.le_trans h g
  | ended o w => trivial
theorem ite_sW {c : Prop} [Decidable c] {a b : Stepped} {n : Nat} (h1 : sD n a) (h2 : sD n b) : sD n (if c then a else b) := by split <;> assumption
theorem look_le (p : Program) (gs : Array Goroutine) (rest : Rest) (w : World) : sD w.drawn (look p gs rest w) := by
  unfold look
  simp only []
  split
  · refine ite_sW trivial ?_
    split
    · trivial
    · split <;> rename_i e <;> first | exact run_le' e | trivial
  · trivial
theorem waitingAt_drawn {rest : Rest} {cases : Array CommCase} {w w' : World} (h : waitingAt rest cases w = some w') : w'.drawn = w.drawn := by
  unfold waitingAt at h
  repeat' split at h
  all_goals first | (cases h; done) | (cases h; rfl)
theorem ite_fst {c : Prop} [Decidable c] {a b : Stepped × Array MemOp} {n : Nat} (h1 : sD n a.1) (h2 : sD n b.1) : sD n (if c then a else b).1 := by split <;> assumption
theorem communicate_le (p : Program) (rest : Rest) (gs : Array Goroutine) (i : Nat) (g : Goroutine) (cs : Array CommCase) (bl : Bool) (sh : CommShape) (w : World) : sD w.drawn (communicate p rest gs i g cs bl sh w).1 := by
  unfold communicate
  simp only []
  refine ite_fst trivial (ite_fst (ite_fst ?_ (Nat.le_refl _)) ?_)
  · split
    · rename_i e; exact Nat.le_of_eq (waitingAt_drawn e).symm
    · trivial
  · split
    · trivial
    · rename_i w1 e
      have h : w.drawn ≤ w1.drawn := run_le' e
      clear e
      split
      · split
        · rename_i e; exact Nat.le_trans h (run_le' e)
        · trivial
      · exact h
      · exact h
      · split
        · exact h
        · split
          · rename_i e; exact Nat.le_trans h (run_le' e)
          · trivial
      · exact h
      · exact h
      · trivial
theorem serve_le (p : Program) (m : Machine) (k : Nat) : sD m.world.drawn (serve p m k) := by
  unfold serve
  split
  · trivial
  · exact Nat.le_refl _
  · simp only []
    split
    · trivial
    · exact Nat.le_refl _
theorem timerOp_drawn {m m' : Machine} {op : TimerOp} {v : Value} (h : timerOp m op = .ok (v, m')) : m'.world.drawn = m.world.drawn := by
  have rt : ∀ (m : Machine) (k : Nat) (t : Timer) (a b : Nat), (retime m k t a b).2.world.drawn = m.world.drawn := by
    intro m k t a b
    unfold retime drain
    simp only []
    split
    · split <;> rfl
    · rfl
  cases op with
  | new t =>
    simp only [timerOp] at h
    repeat' split at h
    all_goals first | (cases h; done) | (cases h; rfl)
  | stop var =>
    simp only [timerOp, timerOp.named] at h
    split at h
    · injection h with h; rw [show m' = _ from congrArg Prod.snd h.symm]; exact rt ..
    · cases h
  | reset var a b =>
    simp only [timerOp, timerOp.named, timerOp.opened] at h
    split at h
    · rename_i e
      have e2 : ∀ m2 : Machine, (if waitedFor m var = true then match Kernel.withPoller m.world.os with | .ok os => some { m with world := { m.world with os } } | .error _ => none else some m) = some m2 → m2.world.drawn = m.world.drawn := by
        intro m2 e
        repeat' split at e
        all_goals first | (cases e; done) | (cases e; rfl)
      have e3 := e2 _ e
      split at h
      · injection h with h; rw [show m' = _ from congrArg Prod.snd h.symm]; exact (rt ..).trans e3
      · cases h
    · cases h
  | deadline a b c d => simp only [timerOp] at h; cases h; rfl
theorem runT_sD (p : Program) (m : Machine) (i : Nat) (b : Bool) : sD m.world.drawn (runT p m i b).1 := by
  unfold runT
  simp only []
  have h := stepG_le p (i == 0) b (m.gs.swapAt! i { (default : Goroutine) with status := .finished }).1 m.world
  generalize stepG p (i == 0) (m.gs.swapAt! i { (default : Goroutine) with status := .finished }).1 m.world b = s at h ⊢
  cases s
  all_goals simp only []
  all_goals try exact h
  all_goals try trivial
  · exact sD.trans h (communicate_le ..)
  · exact ite_sW trivial h
  · split
    · rename_i e; exact Nat.le_trans h (Nat.le_of_eq (timerOp_drawn e).symm)
    · split
      · rename_i e; cases e; exact h
      · trivial
    · trivial
    · trivial
  · split
    · exact h
    · split
      · rename_i e; cases e; exact h
      · trivial
    · trivial
  · exact sD.trans h (look_le ..)
def mvD (n : Nat) : Move → Prop
  | .goroutine m _ => n ≤ m.world.drawn
  | .machine s _ => sD n s
theorem mvD.trans {n k : Nat} {s : Move} (h : n ≤ k) (g : mvD k s) : mvD n s := by
  cases s with
  | goroutine m i => exact Nat.le_trans h g
  | machine s o => exact sD.trans h g
theorem askOn_le (p : Program) (m : Machine) : mvD m.world.drawn (askOn p m) := by
  have pick : ∀ (m : Machine) (rs : List Nat), mvD m.world.drawn (match (choose (.sched rs.length)).run p m.world with
      | .halt _ w => .machine (.ended (.stuck "sched" "") w)
      | .ok k world =>
        if rs.length ≤ 1 then .goroutine { m with world } (rs.getD k 0) else
        match (choose (.extern "sched.slice" 65536)).run p world with
        | .halt _ w => .machine (.ended (.stuck "sched.slice" "") w)
        | .ok n world => .goroutine { m with world, rest := { m.rest with slice := if n = 0 then none else some (rs.getD k 0, n) } } (rs.getD k 0)) := by
    intro m rs
    split
    · trivial
    · rename_i w1 e
      have h : m.world.drawn ≤ w1.drawn := run_le' e
      split
      · exact h
      · split
        · trivial
        · rename_i e; exact Nat.le_trans h (run_le' e)
  unfold askOn
  simp only []
  split
  · trivial
  · rename_i k w1 e
    have h : m.world.drawn ≤ w1.drawn := run_le' e
    clear e
    split
    · exact sD.trans h (serve_le p { m with world := w1 } _)
    · split
      · split
        · exact h
        · split
          · exact h
          · split <;> trivial
      · split
        · exact mvD.trans h (pick { m with world := w1 } _)
        · split
          · trivial
          · rename_i w2 e; exact mvD.trans (Nat.le_trans h (run_le' e)) (pick { m with world := w2 } _)
          · rename_i e; exact Nat.le_trans h (run_le' e)
          · rename_i k2 w2 e; exact mvD.trans (Nat.le_trans h (run_le' e)) (pick (Machine.advanceTo { m with world := w2 } _) _)
theorem ask_le' (p : Program) (m : Machine) : mvD m.world.drawn (ask p m) := by
  unfold ask
  split
  · split
    · trivial
    · rename_i w1 e
      have h : m.world.drawn ≤ w1.drawn := run_le' e
      have h2 := look_le p m.gs m.rest w1
      split
      · rename_i e2; rw [e2] at h2; exact mvD.trans (Nat.le_trans h h2) (askOn_le ..)
      · exact sD.trans h h2
    · rename_i w1 _ e
      have h : m.world.drawn ≤ w1.drawn := run_le' e
      exact mvD.trans h (askOn_le p { m with world := w1 })
  · exact askOn_le ..
theorem move_le (p : Program) (m : Machine) : mvD m.world.drawn (move p m) := by
  unfold move
  split
  · split
    · exact Nat.le_refl _
    · trivial
  · split
    · split
      · exact Nat.le_refl _
      · exact ask_le' p { m with rest := { m.rest with slice := none } }
    · exact ask_le' ..
theorem step_le (p : Program) (m : Machine) : sD m.world.drawn (step p m) := by
  unfold step stepT
  have h := move_le p m
  split
  · rename_i e; rw [e] at h; exact sD.trans h (runT_sD ..)
  · rename_i e; rw [e] at h; exact h
theorem runN_le (p : Program) : ∀ (n : Nat) (m m' : Machine), runN p n m = .next m' → m.world.drawn ≤ m'.world.drawn
  | 0, m, m', h => by cases h; exact Nat.le_refl _
  | n + 1, m, m', h => by
    rw [runN] at h
    have h1 := step_le p m
    split at h
    · rename_i e; rw [e] at h1; exact Nat.le_trans h1 (runN_le p n _ _ h)
    · rename_i e; rw [h] at e; exact absurd rfl (e _)
theorem steps_le {p : Program} {m m' : Machine} (h : Steps p m m') : m.world.drawn ≤ m'.world.drawn := by
  obtain ⟨n, h⟩ := h
  exact runN_le p n m m' h
/-- What a call has drawn never falls. -/
theorem calls_drawn {p : Program} {f : FuncId} {args : Array Value} {w : World} {R : Ending → World → Prop} (h : Calls p f args w R) : Calls p f args w fun e w' => R e w' ∧ ((∃ v, e = .returned v) → w.drawn ≤ w'.drawn) := by
  intro cs
  obtain ⟨e, w', fr, h1, h2, h3, h4⟩ := h cs
  refine ⟨e, w', fr, ⟨h1, ?_⟩, h2, h3, h4⟩
  rintro ⟨v, rfl⟩
  exact steps_le (m := lone _ cs w) (m' := lone fr cs w') h2
end Go.Ev

/- Functions of plain values by what the kit says of them over worlds: what lies below stays. -/
namespace Go.Ev
open Go Go.RowKit

section
variable {P : Program} {G : Env} {pl : Pl} {M : Mem} {h : AHeap} {w w' : World} {f : FuncId} {args : List AV} {v : AV}

theorem Rep.below (hr : Rep pl M h w) (hb : Below w.heap.size w w') : Rep pl M h w' :=
  ⟨hr.dom, fun id p o h1 h2 => by rw [hb.block _ (hr.blk id p h1)]; exact hr.obj id p o h1 h2, fun id p h1 => Nat.lt_of_lt_of_le (hr.blk id p h1) hb.size, hr.inj,
    fun b c h1 => by rw [hb.block _ (hr.memLt h1)]; exact hr.imm b c h1, hr.sep⟩
theorem Step.below (hb : Below w.heap.size w w') (hd : w.drawn ≤ w'.drawn) : Step h pl M w h pl M w' :=
  ⟨Ext.refl _, fun _ _ h => h, fun _ _ h => h, hb.size, fun b h1 _ => hb.block b h1, fun id p h => .inl ⟨p, h, rfl⟩, fun _ _ _ h => h, fun _ _ h _ => h, fun _ _ h => .inl h, hb.os, hb.tape, hb.output, hd⟩

/-- A function that the kit knows. -/
theorem HPure.below (hE : ∀ vs w, (callFunc f vs).run P w = .ok (.enter f vs) w)
    (hC : ∀ (pl : Pl) (M : Mem) (w : World) (vs : Array Value) (h : AHeap), GOk G pl M → Rep pl M h w → VRels pl M args vs → ∃ cv, VRel pl M v cv ∧ Calls P f vs w fun e w' => e = .returned cv ∧ Below w.heap.size w w') : HPure P G f args v := by
  intro h pl M w vs hG hr hv
  obtain ⟨cv, h1, h2⟩ := hC pl M w vs h hG hr hv
  refine .inl ⟨hE _ _, Calls.mono (calls_drawn h2) fun e w' ⟨⟨he, hb⟩, hd⟩ => ?_⟩
  exact ⟨cv, v, h, he, ⟨rfl, rfl⟩, pl, M, h1, hr.below hb, Step.below hb (hd ⟨_, he⟩), Nat.le_refl _⟩

/-- A closure of plain values, as the kit wants it. -/
theorem HPure.calls (hGT : GTop G) (hE : ∀ vs w, (callFunc f vs).run P w = .ok (.enter f vs) w) (hp : HPure P G f args v) (hG : GOk G pl M) (hr : Rep pl M h w) {vs : Array Value} (hv : VRels (fun _ => none) M args vs) :
    Calls P f vs w fun e w' => (∃ cv pl' M', e = .returned cv ∧ VRel pl' M' v cv) ∧ Below w.heap.size w w' ∧ w.drawn ≤ w'.drawn := by
  have r0 : Rep (fun _ => none) M AHeap.none w := ⟨fun _ _ h => (by cases h), fun _ _ _ h _ => (by cases h), fun _ _ h => (by cases h), fun _ _ _ _ h _ _ => (by cases h), hr.imm, fun _ _ h => (by cases h)⟩
  rcases hp AHeap.none (fun _ => none) M w vs (hG.none hGT) r0 hv with ⟨_, h2⟩ | ⟨cv, w1, v1, h1, e1, _, _⟩
  · refine Calls.mono h2 fun e w' ⟨cv, v1, h1, he, ⟨e1, e2⟩, pl', M', g1, g2, g3, _⟩ => ?_
    subst e1
    exact ⟨⟨cv, pl', M', he, g1⟩, ⟨g3.os, g3.tape, g3.out, g3.size, fun b hb => g3.kept b hb fun id p h => (by cases h)⟩, g3.drawn⟩
  · rw [hE] at e1; cases e1
end
end Go.Ev

/- What a label, a word, a name must be; where a run of bytes of one class ends. -/
namespace Go.Ev
open Go

def inB (lo hi : Int) (c : UInt8) : Bool := bnot (ltI (.ofNat c.toNat) lo || ltI hi (.ofNat c.toNat))
abbrev digB : UInt8 → Bool := inB 48 57
abbrev capB : UInt8 → Bool := inB 65 90
/-- How many bytes of a class come first. -/
def runB (p : UInt8 → Bool) (s : Str) : Nat := (s.takeWhile p).length
section
variable {p : UInt8 → Bool} {s : Str}
theorem runB_le : runB p s ≤ s.length := (List.takeWhile_prefix p).length_le
theorem runB_at : ∀ {s : Str} {i : Nat}, i < runB p s → p (gD s i) = true
  | [], i, h => by simp [runB] at h
  | c :: r, i, h => by
    cases hc : p c with
    | false => simp [runB, hc] at h
    | true =>
      cases i with
      | zero => exact hc
      | succ i => exact runB_at (s := r) (by simpa [runB, hc] using h)
theorem runB_end : ∀ {s : Str}, runB p s < s.length → p (gD s (runB p s)) = false
  | [], h => by simp at h
  | c :: r, h => by
    cases hc : p c with
    | false => simp [runB, hc, gD]
    | true =>
      have h2 : runB p r < r.length := by simpa [runB, hc] using h
      have := runB_end (s := r) h2
      simpa [runB, hc, gD] using this
theorem runB_full : ∀ {s : Str}, runB p s = s.length ↔ s.all p = true
  | [] => by simp [runB]
  | c :: r => by
    have ih : runB p r = r.length ↔ r.all p = true := runB_full
    cases hc : p c with
    | false => simp [runB, hc]
    | true => simpa [runB, hc] using ih
/-- The run's length is the first place that is not of the class. -/
theorem runB_eq {i : Nat} (h1 : ∀ j, j < i → p (gD s j) = true) (h2 : i ≤ s.length) (h3 : i < s.length → p (gD s i) = false) : runB p s = i := by
  rcases Nat.lt_trichotomy (runB p s) i with h | h | h
  · have := runB_end (p := p) (s := s) (by omega)
    rw [h1 _ h] at this; cases this
  · exact h
  · have hl := runB_le (p := p) (s := s)
    have := runB_at h
    rw [h3 (by omega)] at this; cases this
end
theorem inB_of {lo hi : Int} {c : UInt8} (h1 : ltI (.ofNat c.toNat) lo = false) (h2 : ltI hi (.ofNat c.toNat) = false) : inB lo hi c = true := by unfold inB; rw [h1, h2]; rfl
theorem inB_lo {lo hi : Int} {c : UInt8} (h1 : ltI (.ofNat c.toNat) lo = true) : inB lo hi c = false := by unfold inB; rw [h1]; rfl
theorem inB_hi {lo hi : Int} {c : UInt8} (h1 : ltI hi (.ofNat c.toNat) = true) : inB lo hi c = false := by unfold inB; rw [h1]; cases ltI (.ofNat c.toNat) lo <;> rfl

/-- A label. -/
def labelB (s : Str) : Bool := bnot (ltI (.ofNat (s.take (runB digB s)).length) 1) && (bnot (ltI 4 (.ofNat (s.take (runB digB s)).length)) && (bnot (eqI (.ofNat (gD (s.take (runB digB s)) 0).toNat) 48) && (bnot (ltI 3 (.ofNat (s.drop (runB digB s)).length)) && (s.drop (runB digB s)).all capB)))
/-- A word; a row of words. -/
def wordB (s : Str) : Bool := bnot (ltI (.ofNat s.length) 1) && (bnot (ltI 24 (.ofNat s.length)) && s.all (inB 33 126))
def rowB (l : List Str) : Bool := bnot (ltI 256 (.ofNat l.length)) && l.all wordB
theorem lit0 : ({ data := #[] } : ByteArray).data.toList = ([] : List UInt8) := rfl
theorem empty_lt (s : Str) : ltI (.ofNat s.length) 1 = eqB s [] := by cases s <;> rfl
/-- The first place, from 'i' on, of an element of the kind; -1: there is none. -/
def idxL {α : Type} (p : α → Bool) : List α → Nat → Int
  | [], _ => -1
  | x :: r, i => bif p x then Int.ofNat i else idxL p r (i + 1)
theorem idxL_neg {α : Type} (p : α → Bool) : ∀ (l : List α) (i : Nat), ltI (idxL p l i) 0 = bnot (l.any p)
  | [], _ => rfl
  | x :: r, i => by
    unfold idxL
    rw [List.any_cons]
    cases h : p x with
    | true => rfl
    | false => rw [cond_false, idxL_neg p r (i + 1), Bool.false_or]
section
variable {α : Type} {p : α → Bool} {l x r : List α} {w : α} {j : Nat}
theorem drop_len (h1 : l.drop j = x) (h2 : x = w :: r) : l.length - (w :: r).length = j ∧ l.length - r.length = j + 1 := by
  have := congrArg List.length (h1.trans h2)
  simp only [List.length_drop, List.length_cons] at this ⊢
  omega
theorem idx_hit (h1 : l.drop j = x) (h2 : x = w :: r) (h3 : idxL p l 0 = idxL p (w :: r) (l.length - (w :: r).length)) (h4 : p w = true) : idxL p l 0 = Int.ofNat j := by
  rw [h3, (drop_len h1 h2).1, idxL, h4]; rfl
theorem idx_step (h1 : l.drop j = x) (h2 : x = w :: r) (h3 : idxL p l 0 = idxL p (w :: r) (l.length - (w :: r).length)) (h4 : p w = false) : idxL p l 0 = idxL p r (l.length - r.length) := by
  rw [h3, (drop_len h1 h2).1, (drop_len h1 h2).2, idxL, h4]; rfl
theorem idx_start : idxL p l 0 = idxL p l (l.length - l.length) := by rw [Nat.sub_self]
end

/-- An address. -/
def abookB (s : PStep) : Bool := eqI s.kind 0 && eqB s.label []
def stepB (s : PStep) : Bool := ltI 0 s.kind && (bnot (ltI 7 s.kind) && labelB s.label)
def adrL : List PStep → Bool
  | [] => true
  | s :: r => (abookB s || stepB s) && r.all stepB
def addrB (p : List PStep) : Bool := adrL p && bnot (ltI 9 (.ofNat p.length))
def adrR (p r : List PStep) : Bool := bif Nat.beq r.length p.length then adrL r else r.all stepB
theorem adr_start {p : List PStep} : adrL p = adrR p p := by unfold adrR; rw [Nat.beq_refl]; rfl
theorem adr_end {p : List PStep} : adrR p [] = true := by unfold adrR; cases Nat.beq ([] : List PStep).length p.length <;> rfl
theorem adr_go {p x r : List PStep} {w : PStep} {j : Nat} (h1 : p.drop j = x) (h2 : x = w :: r) (h3 : adrL p = adrR p (w :: r)) : adrL p = ((bif eqI (Int.ofNat j) 0 then (abookB w || stepB w) else stepB w) && adrR p r) := by
  obtain ⟨e1, e2⟩ := drop_len h1 h2
  have e3 := congrArg List.length (h1.trans h2)
  simp only [List.length_drop, List.length_cons] at e1 e2 e3
  have f1 : Nat.beq r.length p.length = false := by cases h : Nat.beq r.length p.length with | false => rfl | true => have := Nat.eq_of_beq_eq_true h; omega
  rw [h3]
  unfold adrR
  rw [f1]
  cases j with
  | zero =>
    have f2 : Nat.beq (w :: r).length p.length = true := by rw [show (w :: r).length = p.length by simp only [List.length_cons]; omega]; exact Nat.beq_refl _
    rw [f2]; rfl
  | succ j =>
    have f2 : Nat.beq (w :: r).length p.length = false := by cases h : Nat.beq (w :: r).length p.length with | false => rfl | true => have := Nat.eq_of_beq_eq_true h; simp only [List.length_cons] at this; omega
    rw [f2]; rfl
/-- The kinds: names; what may lie in what. -/
def kindNm : Int → Str
  | 0 => [98, 111, 111, 107]
  | 1 => [112, 97, 114, 116]
  | 2 => [115, 101, 99, 116, 105, 111, 110]
  | 3 => [112, 97, 114, 97, 103, 114, 97, 112, 104]
  | 4 => [116, 97, 98, 108, 101]
  | 5 => [114, 111, 119]
  | 6 => [99, 101, 108, 108]
  | 7 => [110, 111, 116, 101]
  | _ => []
def underK : Int → List Int
  | 0 => [1, 2]
  | 1 => [2]
  | 2 => [3, 4, 7]
  | 3 => [3, 4, 7]
  | 4 => [5]
  | 5 => [6]
  | _ => []
def nestsB (p k : Int) : Bool := (underK p).any (eqI k)
theorem kind_cases {k : Int} (h1 : 0 ≤ k) (h2 : k ≤ 7) : k = 0 ∨ k = 1 ∨ k = 2 ∨ k = 3 ∨ k = 4 ∨ k = 5 ∨ k = 6 ∨ k = 7 := by omega
theorem kindNm_out {k : Int} (h : k < 0 ∨ 7 < k) : kindNm k = [] := by
  unfold kindNm
  split <;> first | rfl | omega
theorem underK_out {k : Int} (h : k < 0 ∨ 7 < k) : underK k = [] := by
  unfold underK
  split <;> first | rfl | omega
end Go.Ev

/- The library's searches for a rune of a kind, by what the kit says of them. -/
namespace Go.Ev
open Go Go.RowKit Go.Proofs

/-- A class of bytes below 128, and the runes that are none of it. -/
structure ClassOf (p : UInt8 → Bool) (q : Nat → Bool) : Prop where
  low : ∀ c : UInt8, c.toNat < 128 → q c.toNat = bnot (p c)
  high : ∀ n, 128 ≤ n → q n = true
  none : ∀ c : UInt8, 128 ≤ c.toNat → p c = false
theorem gD_byte {s : Str} {i : Nat} (h : i < s.length) (h2 : i < ByteArray.size ⟨⟨s⟩⟩) : (ByteArray.mk ⟨s⟩)[i]'h2 = gD s i := by
  simp [gD, List.getD, List.getElem?_eq_getElem h]
  rfl
theorem idxFunc_from {p : UInt8 → Bool} {q : Nat → Bool} (hc : ClassOf p q) (s : Str) : ∀ (f pos : Nat), pos ≤ runB p s → s.length ≤ pos + f → Lib.idxFuncFrom q true ⟨⟨s⟩⟩ f pos = (bif Nat.beq (runB p s) s.length then -1 else Int.ofNat (runB p s))
  | f, pos, h1, h2 => by
    have hl := runB_le (p := p) (s := s)
    have hsz : ByteArray.size ⟨⟨s⟩⟩ = s.length := rfl
    by_cases he : pos < s.length
    · cases f with
      | zero => omega
      | succ f =>
        unfold Lib.idxFuncFrom
        rw [hsz, if_pos he]
        have hb := gD_byte he (by rw [hsz]; exact he)
        by_cases hr : pos < runB p s
        · have hp := runB_at hr
          have ha : (gD s pos).toNat < 128 := by
            rcases Nat.lt_or_ge (gD s pos).toNat 128 with h | h
            · exact h
            · rw [hc.none _ h] at hp; cases hp
          rw [decode_ascii _ pos (by rw [hsz]; exact he) (by rw [hb]; exact ha), hb]
          rw [if_neg (by rw [hc.low _ ha, hp]; decide)]
          exact idxFunc_from hc s f (pos + 1) hr (by omega)
        · have e : runB p s = pos := by omega
          have hp := runB_end (p := p) (s := s) (by omega)
          rw [e] at hp
          have hq : q (Utf8.decode ⟨⟨s⟩⟩ pos).1 = true := by
            rcases Nat.lt_or_ge (gD s pos).toNat 128 with h | h
            · rw [decode_ascii _ pos (by rw [hsz]; exact he) (by rw [hb]; exact h), hb, hc.low _ h, hp]; rfl
            · exact hc.high _ (decode_high _ pos (by rw [hsz]; exact he) (by rw [hb]; exact h)).1
          rw [if_pos hq, e]
          have f1 : Nat.beq pos s.length = false := by cases h : Nat.beq pos s.length with | false => rfl | true => have := Nat.eq_of_beq_eq_true h; omega
          rw [f1]; rfl
    · have e : runB p s = s.length := by omega
      rw [Lib.idxFuncFrom_end _ _ _ _ _ (by rw [hsz]; exact he), e, Nat.beq_refl]; rfl
theorem idxFunc_run {p : UInt8 → Bool} {q : Nat → Bool} (hc : ClassOf p q) (s : Str) : Lib.idxFunc q true ⟨⟨s⟩⟩ = (bif Nat.beq (runB p s) s.length then -1 else Int.ofNat (runB p s)) :=
  idxFunc_from hc s _ 0 (Nat.zero_le _) (by show s.length ≤ 0 + s.length; omega)

section
variable {P : Program} {G : Env} {f g : FuncId}
theorem predGrows {pl : Pl} {M : Mem} {w : World} {h : AHeap} (hGT : GTop G) (hg2 : ∀ args w, (callFunc g args).run P w = .ok (.enter g args) w) {q : Nat → Bool} {qI : Int → Bool} (hp : ∀ r : Int, HPure P G g [.int .i32 r] (.bool (qI r))) (hq : ∀ n : Nat, qI (.ofNat n) = q n)
    (hG : GOk G pl M) (hr : Rep pl M h w) : PredGrows P g #[] q w := by
  intro W x _ hb
  refine Calls.mono (HPure.calls hGT hg2 (hp (.ofNat x)) hG (hr.below hb) (vs := #[.int .i32 (.ofNat x)]) ⟨rfl, fun j y hj => ?_⟩) fun e w' ⟨⟨cv, pl', M', he, hv⟩, hb', _⟩ => ?_
  · cases j with
    | zero => simp at hj; subst hj; exact .int _ _
    | succ j => simp at hj
  · cases hv
    exact ⟨by rw [he, hq], hb'⟩
theorem indexFunc_call (hGT : GTop G) (hE : ∀ vs w, (callFunc f vs).run P w = .ok (.enter f vs) w) (hg2 : ∀ args w, (callFunc g args).run P w = .ok (.enter g args) w) {q : Nat → Bool} {qI : Int → Bool}
    (hC : ∀ (s : ByteArray) (w : World), PredGrows P g #[] q w → Calls P f #[.string s, .func (.func g) #[] #[]] w fun e w' => e = .returned (.int .i64 (Lib.idxFunc q true s)) ∧ Below w.heap.size w w')
    (hp : ∀ r : Int, HPure P G g [.int .i32 r] (.bool (qI r))) (hq : ∀ n : Nat, qI (.ofNat n) = q n) {p : UInt8 → Bool} (hc : ClassOf p q) (s : Str) :
    HPure P G f [.str s, .func (.func g) [] []] (.int .i64 (bif Nat.beq (runB p s) s.length then -1 else Int.ofNat (runB p s))) := by
  refine HPure.below hE fun pl M w vs h hG hr hv => ?_
  obtain ⟨a, b, rfl, hv1, hv2⟩ := args2 hv
  have e2 := rel_func hv2
  subst e2
  cases hv1
  rw [← idxFunc_run hc s]
  exact ⟨_, .int _ _, hC ⟨⟨s⟩⟩ w (predGrows hGT hg2 hp hq hG hr)⟩
theorem containsFunc_call (hGT : GTop G) (hE : ∀ vs w, (callFunc f vs).run P w = .ok (.enter f vs) w) (hg2 : ∀ args w, (callFunc g args).run P w = .ok (.enter g args) w) {q : Nat → Bool} {qI : Int → Bool}
    (hC : ∀ (s : ByteArray) (w : World), PredGrows P g #[] q w → Calls P f #[.string s, .func (.func g) #[] #[]] w fun e w' => e = .returned (.bool (decide (0 ≤ Lib.idxFunc q true s))) ∧ Below w.heap.size w w')
    (hp : ∀ r : Int, HPure P G g [.int .i32 r] (.bool (qI r))) (hq : ∀ n : Nat, qI (.ofNat n) = q n) {p : UInt8 → Bool} (hc : ClassOf p q) (s : Str) :
    HPure P G f [.str s, .func (.func g) [] []] (.bool (bnot (s.all p))) := by
  refine HPure.below hE fun pl M w vs h hG hr hv => ?_
  obtain ⟨a, b, rfl, hv1, hv2⟩ := args2 hv
  have e2 := rel_func hv2
  subst e2
  cases hv1
  have e : bnot (s.all p) = decide (0 ≤ Lib.idxFunc q true ⟨⟨s⟩⟩) := by
    rw [idxFunc_run hc s]
    cases ha : s.all p with
    | true => rw [(runB_full (p := p)).2 ha, Nat.beq_refl]; rfl
    | false =>
      have : Nat.beq (runB p s) s.length = false := by
        cases hb : Nat.beq (runB p s) s.length with
        | false => rfl
        | true => rw [(runB_full (p := p)).1 (Nat.eq_of_beq_eq_true hb)] at ha; cases ha
      rw [this]
      exact (decide_eq_true (Int.natCast_nonneg _)).symm
  rw [e]
  exact ⟨_, .bool _, hC ⟨⟨s⟩⟩ w (predGrows hGT hg2 hp hq hG hr)⟩
end
/-- The digits; the capitals. -/
theorem class_in {lo hi : Nat} (h : hi < 128) : ClassOf (inB (Int.ofNat lo) (Int.ofNat hi)) fun n => ltI (Int.ofNat n) (Int.ofNat lo) || ltI (Int.ofNat hi) (Int.ofNat n) where
  low c _ := by unfold inB; cases (ltI (.ofNat c.toNat) (Int.ofNat lo) || ltI (Int.ofNat hi) (.ofNat c.toNat)) <;> rfl
  high n hn := by rw [show ltI (Int.ofNat hi) (Int.ofNat n) = true from ltI_t (by simp only [Int.ofNat_eq_natCast]; omega)]; exact Bool.or_true _
  none c hn := inB_hi (ltI_t (by simp only [Int.ofNat_eq_natCast]; omega))
end Go.Ev

/- Texts joined, repeated, trimmed, by what the kit says of the library. -/
namespace Go.Ev
open Go Go.RowKit

section
variable {P : Program} {G : Env} {f : FuncId}
/-- A slice of texts, as it lies. -/
theorem strs_cells {pl : Pl} {M : Mem} {w : World} {h : AHeap} (hr : Rep pl M h w) {l : List Str} {a : Addr} {n cap : Nat} (hv : VRel pl M (.ps (l.map encStr) false) (.slice (some a) n cap)) (hne : l ≠ []) :
    n = l.length ∧ n ≤ cap ∧ a = ⟨a.block, a.off, none⟩ ∧ a.block < w.heap.size ∧ ∀ (j : Nat) (x : ByteArray), (l.map fun s => (⟨⟨s⟩⟩ : ByteArray))[j]? = some x → w.cell? ⟨a.block, a.off + j, none⟩ = some (.string x) := by
  cases hv with
  | ps hl ht hm hs hc =>
    rename_i sz c
    have hne' : l.map encStr ≠ [] := by simpa using hne
    obtain ⟨m1, m2, m3, m4⟩ := hm hne'
    obtain ⟨t, fr, hb⟩ := hr.imm _ _ m2
    have hsz : sz = 1 := by
      cases l with
      | nil => exact absurd rfl hne
      | cons s r => exact ((hs (encStr s) (by simp)).1).symm
    subst hsz
    refine ⟨by simp, hl, by rw [← m1], hr.memLt m2, fun j x hj => ?_⟩
    rw [List.getElem?_map] at hj
    obtain ⟨s, e1, rfl⟩ := Option.map_eq_some_iff.1 hj
    have hlt : j < l.length := (List.getElem?_eq_some_iff.1 e1).1
    have q := hc j (encStr s) 0 (.str s) (by rw [List.getElem?_map, e1]; rfl) rfl
    rw [Nat.mul_one, Nat.add_zero] at q
    have hin : a.off + j < c.size := by simp at m3; omega
    have e2 : c[a.off + j]? = some (c.getD (a.off + j) undef) := by simp [Array.getD, hin]
    simp only [World.cell?, hb]
    simp only [Option.isSome_none, Bool.false_eq_true, if_false]
    rw [e2]
    cases hq : c.getD (a.off + j) undef <;> rw [hq] at q <;> cases q
    rfl
theorem join_call (hE : ∀ vs w, (callFunc f vs).run P w = .ok (.enter f vs) w)
    (hC : ∀ (bk o c : Nat) (xs : List ByteArray) (sep : ByteArray) (w : World), (∀ (j : Nat) x, xs[j]? = some x → w.cell? ⟨bk, o + j, none⟩ = some (.string x)) → bk < w.heap.size → xs.length ≤ 140737488355328 → xs.length ≤ c →
      (Lib.join (xs.map (·.data.toList)) sep.data.toList).length ≤ 140737488355328 →
      Calls P f #[.slice (some ⟨bk, o, none⟩) xs.length c, .string sep] w fun e w' => e = .returned (.string ⟨(Lib.join (xs.map (·.data.toList)) sep.data.toList).toArray⟩) ∧ Below w.heap.size w w')
    (hN : ∀ (a : Option Addr) (c : Nat) (sep : ByteArray) (w : World), Calls P f #[.slice a 0 c, .string sep] w fun e w' => e = .returned (.string ⟨#[]⟩) ∧ w' = w)
    (l : List Str) (sep : Str) (h1 : l.length ≤ 140737488355328) (h2 : (Lib.join l sep).length ≤ 140737488355328) : HPure P G f [.ls (l.map encStr), .str sep] (.str (Lib.join l sep)) := by
  refine HPure.below hE fun pl M w vs h hG hr hv => ?_
  obtain ⟨a, b, rfl, hv1, hv2⟩ := args2 hv
  cases hv2
  have nil (p : Option Addr) (cap : Nat) (hl : l = []) : ∃ cv, VRel pl M (.str (Lib.join l sep)) cv ∧ Calls P f #[.slice p 0 cap, .string ⟨⟨sep⟩⟩] w fun e w' => e = .returned cv ∧ Below w.heap.size w w' := by
    subst hl
    exact ⟨.string ⟨⟨[]⟩⟩, .str _, Calls.mono (hN p cap ⟨⟨sep⟩⟩ w) fun e w' ⟨he, hw⟩ => ⟨he, hw ▸ Below.refl _ _⟩⟩
  generalize hx : l.map encStr = xs at hv1
  cases hv1 with
  | lsn => exact nil none 0 (by simpa using hx)
  | lsp hp ht =>
    subst hx
    by_cases hl : l = []
    · subst hl
      cases hp with
      | ps => exact nil _ _ rfl
    · have hp' := hp
      cases hp with
      | ps =>
        rename_i a cap sz c _ _ _ _ _
        obtain ⟨e1, e2, e3, e4, e5⟩ := strs_cells hr hp' hl
        have e6 : (l.map fun s => (⟨⟨s⟩⟩ : ByteArray)).map (·.data.toList) = l := by rw [List.map_map]; exact List.map_id l
        have := hC a.block a.off cap (l.map fun s => ⟨⟨s⟩⟩) ⟨⟨sep⟩⟩ w e5 e4 (by simpa using h1) (by rw [List.length_map, ← e1]; exact e2) (by rw [e6]; exact h2)
        rw [e6, ← e3, List.length_map, ← e1] at this
        exact ⟨.string ⟨⟨Lib.join l sep⟩⟩, .str _, this⟩
end
end Go.Ev

/- Trees of units: numbers, the way to a unit, what a tree must be. -/
namespace Go.Ev
open Go

structure PId where
  a : Int
  i : Int
  n : Int
  deriving Inhabited, DecidableEq
section
variable {p : PId} {u w : TUnit} {r : List TUnit}
end
theorem eqB_refl : ∀ (s : Str), eqB s s = true
  | [] => rfl
  | c :: r => by simp only [eqB, eqB_refl r, Bool.and_true]; exact Nat.beq_refl _
theorem eqB_t : ∀ {a b : Str}, eqB a b = true → a = b
  | [], [], _ => rfl
  | c :: r, d :: q, h => by
    simp only [eqB, Bool.and_eq_true] at h
    rw [eqB_t h.2, UInt8.toNat_inj.1 (Nat.eq_of_beq_eq_true h.1)]
section
variable {K : Type} {ag : Bool} {sz : Nat} {lv : List (Nat × Nat)} {kenc : K → AV} {keq : K → K → Bool}
end
end Go.Ev

/- 'Says less', decided: deep in slices; contracts at arguments that say more; contracts as hooks of a closed run. -/
namespace Go.Ev
open Go

/-- Cell by cell. -/
def LeC (u v : AV) : Prop := (Sc v → Sc u) ∧ Les u.cells v.cells
theorem LeC.refl (v : AV) : LeC v v := ⟨id, Les.refl _⟩
theorem LeC.one {u v : AV} (hu : u.cells = [u]) (hv : v.cells = [v]) (hs : scalB u = true) (h : Le u v) : LeC u v :=
  ⟨fun _ y hy => by rw [hu] at hy; rw [List.mem_singleton.1 hy]; exact hs, by rw [hu, hv]; exact .cons h .nil⟩
inductive LesC : List AV → List AV → Prop
  | nil : LesC [] []
  | cons {u v : AV} {us vs : List AV} (h : LeC u v) (k : LesC us vs) : LesC (u :: us) (v :: vs)
theorem LesC.len {us vs : List AV} (h : LesC us vs) : us.length = vs.length := by
  induction h with
  | nil => rfl
  | cons _ _ ih => simp [ih]
theorem LesC.at_ {us vs : List AV} (h : LesC us vs) : ∀ (j : Nat) (u : AV), us[j]? = some u → ∃ v, vs[j]? = some v ∧ LeC u v := by
  induction h with
  | nil => intro j u h; simp at h
  | cons h k ih =>
    intro j u hj
    cases j with
    | zero => simp at hj; subst hj; exact ⟨_, rfl, h⟩
    | succ j => simpa using ih j u (by simpa using hj)
theorem Le.psC {xs ys : List AV} {t : Bool} (h : LesC xs ys) : Le (.ps xs false) (.ps ys t) := fun pl M v hv => by
  cases hv with
  | @ps _ _ a cap sz c hl ht hm hs hc =>
    rw [← h.len]
    refine .ps (sz := sz) (c := c) (by rw [h.len]; exact hl) (fun h => by cases h) (fun hx => ?_) (fun x hx => ?_) fun i x j y hx hy => ?_
    · have : ys ≠ [] := fun e => hx (List.eq_nil_of_length_eq_zero (by rw [h.len, e]; rfl))
      rw [h.len]; exact hm this
    · obtain ⟨i, hi⟩ := List.getElem?_of_mem hx
      obtain ⟨y, h1, h2, h3⟩ := h.at_ i x hi
      have := hs y (List.mem_of_getElem? h1)
      exact ⟨h3.len.trans this.1, h2 this.2⟩
    · obtain ⟨z, h1, _, h3⟩ := h.at_ i x hx
      obtain ⟨d, h4, h5⟩ := h3.at_ j y hy
      exact h5 _ _ _ (hc i z j d h1 h4)
theorem Le.lsC {xs ys : List AV} {t : Bool} (h : LesC xs ys) (h0 : AV.tops xs = 0) : Le (.ls xs) (.ps ys t) := fun pl M v hv => .lsp (Le.psC h pl M v hv) h0
theorem Le.llC {xs ys : List AV} (h : LesC xs ys) (h0 : AV.tops xs = 0) : Le (.ls xs) (.ls ys) := fun pl M v hv => by
  cases hv with
  | lsn => cases h; exact .lsn
  | lsp hv _ => exact .lsp (Le.psC h pl M v hv) h0
/-- A slice with contents is not nil. -/
theorem Le.pls {x : AV} {xs ys : List AV} (h : LesC (x :: xs) ys) : Le (.ps (x :: xs) false) (.ls ys) := fun pl M v hv => by
  cases hv with
  | lsn => cases h
  | lsp hv _ => exact Le.psC h pl M v hv

mutual
/-- Does 'u' say less than 'v', or the same? -/
def AV.leB : AV → AV → Bool
  | .ls xs, .nils => xs.isEmpty
  | .ls xs, .ps ys _ => AV.leBs xs ys && Nat.beq (AV.tops xs) 0
  | .ls xs, .ls ys => AV.leBs xs ys && Nat.beq (AV.tops xs) 0
  | .ps (x :: xs) false, .ls ys => AV.leBs (x :: xs) ys
  | .ps xs false, .ps ys _ => AV.leBs xs ys
  | .agg us, .agg vs => AV.leBs us vs && us.all scalB
  | u, v => AV.same u v
def AV.leBs : List AV → List AV → Bool
  | [], [] => true
  | a :: us, b :: vs => AV.leB a b && AV.leBs us vs
  | _, _ => false
end
theorem LeC.same {u v : AV} (h : AV.same u v = true) : Le u v ∧ LeC u v := by rw [AV.same_eq _ _ h]; exact ⟨Le.refl _, LeC.refl _⟩
mutual
theorem AV.leB_ok : ∀ (u v : AV), AV.leB u v = true → Le u v ∧ LeC u v := fun u v h => by
  unfold AV.leB at h
  split at h
  · rename_i xs
    have e : xs = [] := by simpa using h
    subst e
    exact ⟨Le.nils, LeC.one rfl rfl rfl Le.nils⟩
  · rename_i xs ys t
    have h := Bool.and_eq_true_iff.1 h
    have k := Le.lsC (t := t) (AV.leBs_ok xs ys h.1).2 (Nat.eq_of_beq_eq_true h.2)
    exact ⟨k, LeC.one rfl rfl rfl k⟩
  · rename_i xs ys
    have h := Bool.and_eq_true_iff.1 h
    have k := Le.llC (AV.leBs_ok xs ys h.1).2 (Nat.eq_of_beq_eq_true h.2)
    exact ⟨k, LeC.one rfl rfl rfl k⟩
  · rename_i x xs ys
    have k := Le.pls (AV.leBs_ok (x :: xs) ys h).2
    exact ⟨k, LeC.one rfl rfl rfl k⟩
  · rename_i xs ys t
    have k := Le.psC (t := t) (AV.leBs_ok xs ys h).2
    exact ⟨k, LeC.one rfl rfl rfl k⟩
  · rename_i us vs
    have h := Bool.and_eq_true_iff.1 h
    have k := AV.leBs_ok us vs h.1
    exact ⟨Le.aggB k.1 h.2, fun _ y hy => List.all_eq_true.1 h.2 y hy, k.1⟩
  · exact LeC.same h
theorem AV.leBs_ok : ∀ (us vs : List AV), AV.leBs us vs = true → Les us vs ∧ LesC us vs := fun us vs h => by
  unfold AV.leBs at h
  split at h
  · exact ⟨.nil, .nil⟩
  · rename_i a us b vs
    have h := Bool.and_eq_true_iff.1 h
    have h1 := AV.leB_ok a b h.1
    have h2 := AV.leBs_ok us vs h.2
    exact ⟨.cons h1.1 h2.1, .cons h1.2 h2.2⟩
  · cases h
end

section
variable {P : Program} {G : Env} {f : FuncId} {a b : List AV} {u v : AV}
/-- A contract at arguments that say more. -/
theorem HPure.args (h : HPure P G f a v) (hl : Les a b) : HPure P G f b v := fun hp pl M w vs hg hr hv => h hp pl M w vs hg hr (hv.le hl)
theorem HPure.lessB (h : HPure P G f a v) (hl : AV.leB u v = true) : HPure P G f a u := h.less (AV.leB_ok _ _ hl).1
/-- Is the outcome at least that? -/
def saysV (v : AV) : Option (AV × AHeap) → Bool
  | some (u, _) => AV.leB v u && Nat.beq u.top 0
  | none => false
/-- A closed call, wherever it is made. -/
theorem HPure.closed {C : Cfg} {k : Nat} (hG : GTop C.G) (ev : CallerOK C.P C.G (evFunc C k)) (ht : AV.tops a = 0) (h : saysV v (evFunc C k f a AHeap.none) = true) : HPure C.P C.G f a v := by
  cases hx : evFunc C k f a AHeap.none with
  | none => rw [hx] at h; cases h
  | some r =>
    obtain ⟨u, h1⟩ := r
    rw [hx] at h
    have h := Bool.and_eq_true_iff.1 h
    exact (HPure.of0 hG ht (Nat.eq_of_beq_eq_true h.2) ((HCall.of ev hx).mono fun v1 _ e => e.1)).lessB h.1
end
end Go.Ev

/- A range over a function: between the function that ranges and the one that yields. -/
namespace Go.Ev
open Go Go.RowKit

/-- A block that is no object's, and holds no cells. -/
structure OB (l : Nat) (o : Obj) (pl : Pl) (w : World) : Prop where
  at_ : w.heap[l]? = some o
  off : ∀ id p, pl id = some p → p.blk ≠ l
  nc : ∀ c t fr, o ≠ .cells c t fr
/-- A loop's record. -/
abbrev XB (l : Nat) (r : Loop) (pl : Pl) (w : World) : Prop := OB l (.loop r) pl w

section
variable {P : Program} {G : Env} {N : Nat} {h0 h h' : AHeap} {pl0 pl pl' : Pl} {M0 M M' : Mem} {w0 w w' : World} {l : Nat} {r : Loop} {a : Act} {s : St} {b : Option Nat}

theorem Rep.belowW (hr : Rep pl M h w) (hb : Below w.heap.size w w') : Rep pl M h w' :=
  ⟨hr.dom, fun id p o h1 h2 => by rw [hb.block _ (hr.blk id p h1)]; exact hr.obj id p o h1 h2, fun id p h1 => Nat.lt_of_lt_of_le (hr.blk id p h1) hb.size, hr.inj,
    fun b c h1 => by rw [hb.block _ (hr.memLt h1)]; exact hr.imm b c h1, hr.sep⟩
theorem Step.belowW (hb : Below w.heap.size w w') (hd : w.drawn ≤ w'.drawn) : Step h pl M w h pl M w' :=
  ⟨Ext.refl _, fun _ _ h => h, fun _ _ h => h, hb.size, fun b h1 _ => hb.block b h1, fun id p h => .inl ⟨p, h, rfl⟩, fun _ _ _ h => h, fun _ _ h _ => h, fun _ _ h => .inl h, hb.os, hb.tape, hb.output, hd⟩
variable {o : Obj}
theorem OB.lt (x : OB l o pl w) : l < w.heap.size := (Array.getElem?_eq_some_iff.1 x.at_).1
theorem OB.step (x : OB l o pl w) (hs : Step h pl M w h' pl' M' w') : OB l o pl' w' :=
  ⟨(hs.kept l x.lt fun id p hp _ => x.off id p hp).trans x.at_, fun id p' hp' => by
    have := x.lt
    rcases hs.blks id p' hp' with ⟨p, h1, h2⟩ | h1
    · rw [← h2]; exact x.off id p h1
    · omega, x.nc⟩
theorem OB.put (x : OB l o pl w) (o' : Obj) (hn : ∀ c t fr, o' ≠ .cells c t fr) : OB l o' pl (w.putObj l o') := ⟨World.putObj_heap_same x.lt, x.off, hn⟩
theorem OB.other (x : OB l o pl w) {k : Nat} (hk : l ≠ k) (o' : Obj) : OB l o pl (w.putObj k o') := ⟨(World.putObj_heap_other hk).trans x.at_, x.off, x.nc⟩
theorem Rep.putOb (hr : Rep pl M h w) (x : OB l o pl w) (o' : Obj) : Rep pl M h (w.putObj l o') :=
  ⟨hr.dom, fun id p o2 h1 h2 => by rw [World.putObj_heap_other (x.off id p h1)]; exact hr.obj id p o2 h1 h2, fun id p h1 => by rw [World.putObj_size]; exact hr.blk id p h1, hr.inj,
    fun b c h1 => by
      obtain ⟨t, fr, e⟩ := hr.imm b c h1
      have hb : b ≠ l := fun eb => by rw [eb, x.at_] at e; cases e; exact x.nc _ _ _ rfl
      exact ⟨t, fr, by rw [World.putObj_heap_other hb]; exact e⟩, hr.sep⟩
theorem Step.swap (x : XB l r pl w) {o1 : Obj} (hs : Step h pl M (w.putObj l o1) h' pl' M' w') : Step h pl M w h' pl' M' (w'.putObj l (.loop r)) := by
  have hsz : w.heap.size ≤ w'.heap.size := by have := hs.size; rwa [World.putObj_size] at this
  refine ⟨hs.ext, hs.new, hs.mem, by rw [World.putObj_size]; exact hsz, fun b hb hk => ?_, fun id p' hp => ?_, hs.live, hs.stay, fun b c hm => ?_, hs.os, hs.tape, hs.out, hs.drawn⟩
  · by_cases e : b = l
    · rw [e, World.putObj_heap_same (Nat.lt_of_lt_of_le x.lt hsz)]; exact x.at_.symm
    · rw [World.putObj_heap_other e, hs.kept b (by rw [World.putObj_size]; exact hb) hk, World.putObj_heap_other e]
  · have := hs.blks id p' hp; rwa [World.putObj_size] at this
  · have := hs.memNew b c hm; rwa [World.putObj_size] at this

theorem Step.putHigh (hs : Step h pl M w h' pl' M' w') (hl : w.heap.size ≤ l) (o : Obj) : Step h pl M w h' pl' M' (w'.putObj l o) :=
  ⟨hs.ext, hs.new, hs.mem, by rw [World.putObj_size]; exact hs.size, fun b hb hk => by rw [World.putObj_heap_other (by omega)]; exact hs.kept b hb hk, hs.blks, hs.live, hs.stay, hs.memNew, hs.os, hs.tape, hs.out, hs.drawn⟩

/-- The fence that lets everything in, in a round's frame or not. -/
abbrev wideR (ro : Option Nat) : Fence := { Fence.wide with round := ro }

theorem opsIn_of {ops : Array Oper} {ro : Option Nat} {n : Nat} {ds : List Deferred} {Q Q' : Exit → Act → World → Prop} (hd : ∀ o ∈ ops, ∀ c, o.op ≠ .defer c) (hno : ∀ a w, ¬ Q .outgrown a w) (hp : ∀ c a w, ¬ Q (.panic c) a w)
    (hQ : ∀ a w, Q .normal a w → Q' .normal { a with defers := a.defers ++ ds } w) :
    ∀ (idx : List Nat) (a : Act) (w : World), wpOps P ops Q idx a w → wpOpsIn (wideR ro) n P ops Q' idx { a with defers := a.defers ++ ds } w
  | [], a, w, h => hQ a w h
  | i :: rest, a, w, h => by
    have hput : ∀ (a : Act) (dst : Option Tmp) (v : Value), ({ a with defers := a.defers ++ ds } : Act).put dst v = { (a.put dst v) with defers := (a.put dst v).defers ++ ds } := fun a dst v => by cases dst <;> rfl
    have hev : ({ a with defers := a.defers ++ ds } : Act).eval = a.eval := funext fun x => by cases x <;> rfl
    have ih := opsIn_of (n := n) (ro := ro) hd hno hp hQ rest
    unfold wpOps at h
    unfold wpOpsIn
    split at h
    · rename_i he; simp only [he]; exact ih a w h
    · rename_i o he
      simp only [he]
      split at h
      · rename_i hw
        rw [if_pos (by exact hw)]
        have h : o.wp P a w (wpOps P ops Q rest) Q := by
          rcases h with h | ⟨_, a1, w1, h⟩
          · exact h
          · exact absurd h (hno a1 w1)
        refine ⟨fun _ _ => trivial, ?_⟩
        rw [Oper.semAt_eq _ _ _ (hd o (Array.mem_of_getElem? he)), hev]
        unfold Oper.wp at h
        generalize hr : (execOp a.eval o).run P w = res at h ⊢
        cases res with
        | ok nx w' =>
          cases nx with
          | value v => show wpOpsIn _ _ _ _ _ _ _ _; rw [hput]; exact ih _ _ h
          | skip => show wpOpsIn _ _ _ _ _ _ _ _; rw [hput]; exact ih _ _ h
          | defer d =>
            show wpOpsIn _ _ _ _ _ _ _ _
            have := ih _ _ h
            rw [← hput] at this
            exact this
          | enter f args =>
            refine ⟨fun e => (by simp [Fence.wide] at e), (callsIn_wide (n := n - 1)).2 (Calls.mono h fun e w2 h2 => ?_)⟩
            cases e with
            | returned v => show wpOpsIn _ _ _ _ _ _ _ _; rw [hput]; exact ih _ _ h2
            | panicked c => exact absurd h2 (hp _ _ _)
            | outgrown => obtain ⟨a1, w1, h2⟩ := h2; exact absurd h2 (hno a1 w1)
          | row rw args =>
            refine ⟨fun e => (by simp [Fence.wide] at e), fun c cs _ => ?_⟩
            obtain ⟨v, w2, k1, k2⟩ := h c cs
            exact ⟨v, w2, (by show wpOpsIn _ _ _ _ _ _ _ _; rw [hput]; exact ih _ _ k1), stepsIn_wide.2 k2⟩
          | _ => exact h.elim
        | halt x w' => cases x <;> first | exact h.elim | exact absurd h (hp _ _ _)
      · rename_i hw
        rw [if_neg (by exact hw)]
        refine ⟨fun _ _ => trivial, ?_⟩
        rw [hput]
        exact ih _ _ h

/-- A region, in a round's frame or not, with deferred calls behind. -/
theorem regionIn {ops : Array Oper} {ro : Option Nat} {n id : Nat} {ds : List Deferred} {Φ : St → Prop} {Q' : Exit → Act → World → Prop} (hd : ∀ o ∈ ops, ∀ c, o.op ≠ .defer c) (h : HOps P G b ops ops.toList s Φ) (hb : Base b h0 pl0)
    (hs : SNow G N h0 pl0 M0 w0 s a w) (hQ : ∀ s' a1 w1, Φ s' → SNow G N h0 pl0 M0 w0 s' a1 w1 → Q' .normal { a1 with defers := ds } w1) : (Code.region id ops false).wpIn (wideR ro) n P Q' { a with defers := ds } w := by
  refine wpIn_region ?_
  have k := h 0 N h0 pl0 M0 w0 a w (fun e a1 w1 => e = .normal ∧ ∃ s', Φ s' ∧ SNow G N h0 pl0 M0 w0 s' a1 w1) hb (fun j => by simp) hs fun s' a1 w1 h1 h2 => ⟨rfl, s', h1, h2⟩
  obtain ⟨_, _, _, _, g3, _, _⟩ := hs.ex
  have e : ({ a with defers := ds } : Act) = { a with defers := a.defers ++ ds } := by rw [g3.defers]; rfl
  rw [e, List.range_eq_range']
  have hlen : ops.size = ops.toList.length := by simp
  rw [hlen]
  refine opsIn_of hd (fun _ _ h => (by cases h.1)) (fun _ _ _ h => (by cases h.1)) (fun a1 w1 h1 => ?_) _ a w k
  obtain ⟨_, s', h1, h2⟩ := h1
  have h3 := hQ s' a1 w1 h1 h2
  obtain ⟨_, _, _, _, g3, _, _⟩ := h2.ex
  rw [g3.defers]; exact h3

/-- One operation of a region. -/
theorem op_in {ops : Array Oper} {ro : Option Nat} {n i : Nat} {rest : List Nat} {o : Oper} {v : AV} {h1 : AHeap} {A' : Fr} {Q : Exit → Act → World → Prop} (ho : ops[i]? = some o) (hg : o.guard = none) (hd : ∀ c, o.op ≠ .defer c) (hs : SNow G N h0 pl0 M0 w0 s a w)
    (e : (opR P G o.op).run s.tmps s.heap = some (.val v h1)) (e2 : putA s.tmps o.dst v = some A')
    (K : ∀ a1 w1, SNow G N h0 pl0 M0 w0 ⟨A', h1⟩ a1 w1 → wpOpsIn (wideR ro) n P ops Q rest a1 w1) : wpOpsIn (wideR ro) n P ops Q (i :: rest) a w := by
  obtain ⟨pl, M, g1, g2, g3, g4, g5⟩ := hs.ex
  obtain ⟨dst, op, ty, pos, after, guard⟩ := o
  simp only at hg e e2 hd
  obtain ⟨pl', M', cv, w', nx, q1, q2, q3, q4, q5, q6⟩ := ok_all (P := P) (G := G) op pl M s.tmps s.heap v h1 a w dst ty pos after guard g1 g2 g3 e
  have key : SNow G N h0 pl0 M0 w0 ⟨A', h1⟩ (a.put dst cv) w' := by
    obtain ⟨p1, p2⟩ := putA_ok (g3.mono q5.ext q5.mem) q3 (by rw [hs.n]; exact hs.small) e2
    exact ⟨⟨pl', M', g1.mono q5.ext q5.mem, q4, p1, g4.trans q5 g5, Nat.le_trans g5 q6⟩, by rw [← hs.n]; exact p2, hs.small⟩
  unfold wpOpsIn
  simp only [ho]
  rw [if_pos (by subst hg; rfl)]
  refine ⟨fun _ _ => trivial, ?_⟩
  rw [Oper.semAt_eq _ _ _ hd, q1]
  rcases q2 with rfl | ⟨rfl, rfl⟩
  · exact K _ _ key
  · exact K _ _ key

/-- A round: what the loop's body does to the objects. -/
theorem yield_round {n : Nat} (g1 : GOk G pl M) (g2 : Rep pl M h w) (x : XB l r pl w) (hrd : r.state = .ready) (hpe : r.pending = none) {AR AR1 : Fr} (hfr : FrRel pl M AR ⟨r.tmps, []⟩) (hsm : AR.n ≤ 60000)
    {kv : AV} {cv : Value} (hk : VRel pl M kv cv) {t : Tmp} (hpar : r.params = #[t]) (hput : AR.put t kv = some AR1) {id1 id2 bl : Nat} {ops1 ops2 : Array Oper} (ha : r.assign = .region id1 ops1 false) (hbo : r.body = .block bl (.region id2 ops2 false))
    (d1 : ∀ o ∈ ops1, ∀ c, o.op ≠ .defer c) (d2 : ∀ o ∈ ops2, ∀ c, o.op ≠ .defer c) {s1 s2 : St} (p1 : HOps P G (some h.n) ops1 ops1.toList ⟨AR1, h⟩ (fun s => s = s1)) (p2 : HOps P G (some s1.heap.n) ops2 ops2.toList s1 (fun s => s = s2)) :
    ∃ tmps, (Instr.yield l #[cv]).run P w = .ok (.round l r.fn tmps r.assign r.body) w ∧ RoundIn Fence.wide n P l r.fn tmps r.assign r.body w fun e w' => e = .returned (.bool true) ∧
      ∃ pl' M', GOk G pl' M' ∧ Rep pl' M' s2.heap w' ∧ Step h pl M w s2.heap pl' M' w' ∧ h.n ≤ s2.heap.n := by
  refine ⟨(Act.put ⟨r.tmps, []⟩ (some t) cv).tmps, by rw [run_yield x.at_ (by rw [hpar]; rfl), hpar]; simp [Act.put], roundIn_of_wpIn trivial ?_⟩
  obtain ⟨hf1, hn1⟩ := putA_ok (dst := some t) hfr hk hsm hput
  have hs : SNow G AR.n h pl M w ⟨AR1, h⟩ ⟨(Act.put ⟨r.tmps, []⟩ (some t) cv).tmps, []⟩ w := ⟨⟨pl, M, g1, g2, hf1, Step.refl _ _ _ _, Nat.le_refl _⟩, hn1, hsm⟩
  have hb1 : Base (some h.n) h pl := fun m hb => by cases hb; exact ⟨rfl, fun id p hq => g2.dom id p hq⟩
  rw [ha]
  refine regionIn (ro := some l) (ds := []) d1 p1 hb1 hs fun s' a1 w1 e1 hs1 => ?_
  subst e1
  obtain ⟨pl1, M1, k1, k2, k3, k4, k5⟩ := hs1.ex
  have x1 := x.step k4
  refine ⟨_, run_beginRound x1.at_ hrd, ?_⟩
  have x2 := x1.put (.loop { r with state := .busy }) (fun _ _ _ e => by cases e)
  have hs2 : SNow G AR.n s'.heap pl1 M1 (w1.putObj l (.loop { r with state := .busy })) s' a1 (w1.putObj l (.loop { r with state := .busy })) := ⟨⟨pl1, M1, k1, Rep.putOb k2 x1 _, k3, Step.refl _ _ _ _, Nat.le_refl _⟩, hs1.n, hs1.small⟩
  have hb2 : Base (some s'.heap.n) s'.heap pl1 := fun m hb => by cases hb; exact ⟨rfl, fun id p hq => k2.dom id p hq⟩
  rw [show ∀ F n Q a w, r.body.wpIn F n P Q a w = (Code.block bl (.region id2 ops2 false)).wpIn F n P Q a w from fun _ _ _ _ _ => by rw [hbo]]
  refine wpIn_block (regionIn (ro := some l) (ds := []) d2 p2 hb2 hs2 fun s3 a3 w3 e3 hs3 => ?_)
  subst e3
  obtain ⟨pl3, M3, m1, m2, m3, m4, m5⟩ := hs3.ex
  have x3 := x2.step m4
  refine ⟨_, _, run_endRound none x3.at_, rfl, pl3, M3, m1, Rep.putOb m2 x3 _, ?_, Nat.le_trans k5 m5⟩
  have e : ({ { r with state := .busy } with state := if (none : Option Code).isNone then .ready else .done, pending := none } : Loop) = r := by
    cases r; simp only at hrd hpe; subst hrd; subst hpe; rfl
  rw [e]
  exact k4.trans (Step.swap x1 m4) k5

/-- The call of 'yield'. -/
theorem yield_in {ops : Array Oper} {n i : Nat} {rest : List Nat} {o : Oper} {A' : Fr} {Q : Exit → Act → World → Prop} {tf tx : Tmp} {ts : Array TypeId} (ho : ops[i]? = some o) (hg : o.guard = none) (hop : o.op = .call { callee := .value (.tmp tf), args := #[.tmp tx], argTypes := ts })
    (hs : SNow G N h0 pl0 M0 w0 s a w) (x0 : XB l r pl0 w0) (hrd : r.state = .ready) (hpe : r.pending = none) {AR AR1 : Fr} (hfr : FrRel pl0 M0 AR ⟨r.tmps, []⟩) (hsm : AR.n ≤ 60000)
    {kv : AV} (hf : s.tmps.get tf = some (.func (.yield l) [] [])) (hx : s.tmps.get tx = some kv) {t : Tmp} (hpar : r.params = #[t]) (hput : AR.put t kv = some AR1) {id1 id2 bl : Nat} {ops1 ops2 : Array Oper} (ha : r.assign = .region id1 ops1 false) (hbo : r.body = .block bl (.region id2 ops2 false))
    (d1 : ∀ o ∈ ops1, ∀ c, o.op ≠ .defer c) (d2 : ∀ o ∈ ops2, ∀ c, o.op ≠ .defer c) {s1 s2 : St} (p1 : HOps P G (some s.heap.n) ops1 ops1.toList ⟨AR1, s.heap⟩ (fun s => s = s1)) (p2 : HOps P G (some s1.heap.n) ops2 ops2.toList s1 (fun s => s = s2))
    (e2 : putA s.tmps o.dst (.bool true) = some A') (K : ∀ a1 w1, SNow G N h0 pl0 M0 w0 ⟨A', s2.heap⟩ a1 w1 → wpOpsIn Fence.wide n P ops Q rest a1 w1) : wpOpsIn Fence.wide n P ops Q (i :: rest) a w := by
  obtain ⟨pl, M, g1, g2, g3, g4, g5⟩ := hs.ex
  have hvx := (g3.at_ tx kv hx).2
  have hvf := (g3.at_ tf _ hf).2
  obtain ⟨tmps, y1, y2⟩ := yield_round (n := n - 1) g1 g2 (x0.step g4) hrd hpe (hfr.mono g4.ext g4.mem) hsm hvx hpar hput ha hbo d1 d2 p1 p2
  unfold wpOpsIn
  simp only [ho]
  rw [if_pos (by unfold Region.wanted; rw [hg])]
  refine ⟨fun _ _ => trivial, ?_⟩
  rw [Oper.semAt_eq _ _ _ (fun c hc => by rw [hop] at hc; cases hc)]
  have hev : a.eval (.tmp tf) = .func (.yield l) #[] #[] := by
    show a.tmps.getD tf undef = _
    generalize a.tmps.getD tf undef = y at hvf
    cases hvf with
    | func h1 h2 => 
      simp at h1 h2
      rw [Array.eq_empty_of_size_eq_zero h1.symm, Array.eq_empty_of_size_eq_zero h2.symm]
  have hrun : (execOp a.eval o).run P w = .ok (.round l r.fn tmps r.assign r.body) w := by
    unfold execOp
    rw [hop]
    simp only [resolve, hev, Deferred.ofValue, invoke, Sem.run_bind, Sem.run_pure, Result.andThen_ok]
    simpa [Act.eval] using y1
  rw [hrun]
  refine ⟨fun e => (by simp [Fence.wide] at e), y2.mono fun e w' h => ?_⟩
  obtain ⟨rfl, pl', M', k1, k2, k3, k4⟩ := h
  obtain ⟨q1, q2⟩ := putA_ok (g3.mono k3.ext k3.mem) (VRel.bool true) (by rw [hs.n]; exact hs.small) e2
  exact K _ _ ⟨⟨pl', M', k1, k2, q1, g4.trans k3 g5, Nat.le_trans g5 k4⟩, by rw [← hs.n]; exact q2, hs.small⟩

/-! ### Code, over bases of one kind. -/

def HCodeB (P : Program) (G : Env) (B : AHeap → Pl → Mem → World → Prop) (c : Code) (s : St) (Φ : AExit → St → Prop) : Prop :=
  ∀ (N : Nat) (h0 : AHeap) (pl0 : Pl) (M0 : Mem) (w0 : World) (a : Act) (w : World) (Q : Exit → Act → World → Prop), B h0 pl0 M0 w0 → SNow G N h0 pl0 M0 w0 s a w →
    (∀ e s' a1 w1, Φ e s' → SNow G N h0 pl0 M0 w0 s' a1 w1 → Q (toExit e) a1 w1) → c.wp P Q a w

variable {B : AHeap → Pl → Mem → World → Prop} {c d : Code} {Φ : AExit → St → Prop}

theorem HCodeB.of (hB : ∀ h0 pl0 M0 w0, B h0 pl0 M0 w0 → Base b h0 pl0) (h : HCode P G b c s Φ) : HCodeB P G B c s Φ :=
  fun N h0 pl0 M0 w0 a w Q hb hs hQ => h N h0 pl0 M0 w0 a w Q (hB _ _ _ _ hb) hs hQ
theorem HCodeB.weak {s' : St} (hB : ∀ h0 pl0 M0 w0, B h0 pl0 M0 w0 → Base b h0 pl0) (hW : Weak G b s s') (h : HCodeB P G B c s' Φ) : HCodeB P G B c s Φ :=
  fun N h0 pl0 M0 w0 a w Q hb hs hQ => h N h0 pl0 M0 w0 a w Q hb (hW _ _ _ _ _ _ _ (hB _ _ _ _ hb) hs) hQ

def ThenB (P : Program) (G : Env) (B : AHeap → Pl → Mem → World → Prop) (d : Code) (Φ : AExit → St → Prop) : AExit → St → Prop
  | .normal, s => HCodeB P G B d s Φ
  | e, s => Φ e s

theorem HCodeB.skip (h : Φ .normal s) : HCodeB P G B .skip s Φ := fun _ _ _ _ _ a w _ _ hs hQ => wp_skip (hQ .normal s a w h hs)
theorem HCodeB.exit {id : Nat} (h : Φ (.exit id) s) : HCodeB P G B (.exit id) s Φ := fun _ _ _ _ _ a w _ _ hs hQ => wp_exit (hQ (.exit id) s a w h hs)
theorem HCodeB.seq (h : HCodeB P G B c s (ThenB P G B d Φ)) : HCodeB P G B (.seq c d) s Φ := by
  intro N h0 pl0 M0 w0 a w Q hb hs hQ
  refine wp_seq (h N h0 pl0 M0 w0 a w _ hb hs fun e s' a1 w1 h1 h2 => ?_)
  cases e with
  | normal => exact h1 N h0 pl0 M0 w0 a1 w1 Q hb h2 hQ
  | exit id => exact hQ (.exit id) s' a1 w1 h1 h2
  | ret => exact hQ .ret s' a1 w1 h1 h2
theorem HCodeB.cond {x : Operand} {t : Bool} (hx : (opd G x).run s.tmps = some (.bool t)) (h1 : t = true → HCodeB P G B c s Φ) (h2 : t = false → HCodeB P G B d s Φ) : HCodeB P G B (.cond x c d) s Φ := by
  intro N h0 pl0 M0 w0 a w Q hb hs hQ
  obtain ⟨pl, M, g1, g2, g3, g4, g5⟩ := hs.ex
  have hv := opd_ok g1 g3 hx
  generalize hq : a.eval x = y at hv
  cases hv
  cases t
  · exact wp_cond_false hq (h2 rfl N h0 pl0 M0 w0 a w Q hb hs hQ)
  · exact wp_cond_true hq (h1 rfl N h0 pl0 M0 w0 a w Q hb hs hQ)
theorem HCodeB.block {id : Nat} (h : HCodeB P G B c s (OutB id Φ)) : HCodeB P G B (.block id c) s Φ := by
  intro N h0 pl0 M0 w0 a w Q hb hs hQ
  refine wp_block (h N h0 pl0 M0 w0 a w _ hb hs fun e s' a1 w1 h1 h2 => ?_)
  cases e with
  | normal => exact hQ .normal s' a1 w1 h1 h2
  | ret => exact hQ .ret s' a1 w1 h1 h2
  | exit k =>
    by_cases hk : k = id
    · simp only [OutB, hk, if_true] at h1
      simp only [toExit, Exit.inBlock, hk, if_true]
      exact hQ .normal s' a1 w1 h1 h2
    · simp only [OutB, hk, if_false] at h1
      simp only [toExit, Exit.inBlock, hk, if_false]
      exact hQ (.exit k) s' a1 w1 h1 h2
theorem HCodeB.loop (I : Nat → St → Prop) (n : Nat) (h0 : I n s) (hI : ∀ n s, I n s → HCodeB P G B c s (Round n I Φ)) : HCodeB P G B (.loop c) s Φ := by
  intro N hp0 pl0 M0 w0 a w Q hb hs hQ
  have key : ∀ (n m : Nat) (s : St) (a : Act) (w : World), n < m → I n s → SNow G N hp0 pl0 M0 w0 s a w → Code.rounds P c Q m a w := by
    intro n
    induction n using Nat.strongRecOn with
    | _ n ih =>
      intro m s a w hm hi hs
      cases m with
      | zero => omega
      | succ m =>
        rw [rounds_succ]
        refine hI n s hi N hp0 pl0 M0 w0 a w _ hb hs fun e s' a1 w1 h1 h2 => ?_
        cases e with
        | normal =>
          obtain ⟨k, hk, hi'⟩ := h1
          exact ih k hk m s' a1 w1 (by omega) hi' h2
        | exit id => exact hQ (.exit id) s' a1 w1 h1 h2
        | ret => exact hQ .ret s' a1 w1 h1 h2
  exact wp_loop_rounds (n + 1) (key n (n + 1) s a w (Nat.lt_succ_self n) h0 hs)

/-- What the iterator may lean on: the record that is ready, the frame of the function that ranges. -/
def YB (m l : Nat) (r : Loop) (AR : Fr) (h0 : AHeap) (pl0 : Pl) (M0 : Mem) (w0 : World) : Prop := Base (some m) h0 pl0 ∧ XB l r pl0 w0 ∧ FrRel pl0 M0 AR ⟨r.tmps, []⟩

/-- The region that yields: two operations, the call, one more. -/
theorem yield_region {m id3 : Nat} {o0 o1 o2 o3 : Oper} {AR AR1 A0 A1 A2 A3 : Fr} (hrd : r.state = .ready) (hpe : r.pending = none) (hsm : AR.n ≤ 60000)
    {v0 v1 v3 : AV} {tf tx t : Tmp} {ts : Array TypeId} {kv : AV} (g0 : o0.guard = none) (g1 : o1.guard = none) (g2 : o2.guard = none) (g3 : o3.guard = none) (n0 : ∀ c, o0.op ≠ .defer c) (n1 : ∀ c, o1.op ≠ .defer c) (n3 : ∀ c, o3.op ≠ .defer c)
    (e0 : (opR P G o0.op).run s.tmps s.heap = some (.val v0 s.heap)) (q0 : putA s.tmps o0.dst v0 = some A0) (e1 : (opR P G o1.op).run A0 s.heap = some (.val v1 s.heap)) (q1 : putA A0 o1.dst v1 = some A1)
    (hop : o2.op = .call { callee := .value (.tmp tf), args := #[.tmp tx], argTypes := ts }) (hf : A1.get tf = some (.func (.yield l) [] [])) (hx : A1.get tx = some kv) (hpar : r.params = #[t]) (hput : AR.put t kv = some AR1) {id1 id2 bl : Nat} {ops1 ops2 : Array Oper}
    (ha : r.assign = .region id1 ops1 false) (hbo : r.body = .block bl (.region id2 ops2 false)) (d1 : ∀ o ∈ ops1, ∀ c, o.op ≠ .defer c) (d2 : ∀ o ∈ ops2, ∀ c, o.op ≠ .defer c) {s1 s2 : St} (p1 : HOps P G (some s.heap.n) ops1 ops1.toList ⟨AR1, s.heap⟩ (fun s => s = s1))
    (p2 : HOps P G (some s1.heap.n) ops2 ops2.toList s1 (fun s => s = s2)) (q2 : putA A1 o2.dst (.bool true) = some A2) (e3 : (opR P G o3.op).run A2 s2.heap = some (.val v3 s2.heap)) (q3 : putA A2 o3.dst v3 = some A3)
    (hΦ : Φ .normal ⟨A3, s2.heap⟩) : HCodeB P G (YB m l r AR) (.region id3 #[o0, o1, o2, o3] false) s Φ := by
  intro N h0 pl0 M0 w0 a w Q hb hs hQ
  obtain ⟨_, x0, hfr⟩ := hb
  refine (wpIn_wide (n := 1)).1 (wpIn_region ?_)
  show wpOpsIn (wideR none) 1 P _ Q [0, 1, 2, 3] a w
  refine op_in rfl g0 n0 hs e0 q0 fun a1 w1 hs1 => ?_
  refine op_in rfl g1 n1 hs1 e1 q1 fun a2 w2 hs2 => ?_
  refine yield_in rfl g2 hop hs2 x0 hrd hpe hfr hsm hf hx hpar hput ha hbo d1 d2 p1 p2 q2 fun a3 w3 hs3 => ?_
  refine op_in (ro := none) rfl g3 n3 hs3 e3 q3 fun a4 w4 hs4 => ?_
  exact hQ .normal _ a4 w4 hΦ hs4

/-- A function that ranges over a function, by the body of what it ranges over. -/
theorem HCall.ranger {f g : FuncId} {fn fk : Func} {args caps : List AV} {hB : AHeap} {AR : Fr} {sA : St} {c0 c1 ck asg body : Code} {tg tp : Tmp} {bl id4 : Nat} {ops4 : Array Oper} {Ψ : AV → AHeap → Prop} {ΨK : AHeap → Prop} (pol : Nat)
    (hf : P.funcs[f]? = some fn) (hN : (fn.name == "runtime.NumGoroutine") = false) (hbd : fn.body = some (.seq c0 (.seq (.seq c1 (.block bl (.rangeFunc (.tmp tg) #[tp] asg body))) (.seq (.region id4 ops4 false) .ret)))) (hn : Nat.ble args.length fn.ntmps = true ∧ Nat.ble fn.ntmps 60000 = true)
    (hk : P.funcs[g]? = some fk) (hkN : (fk.name == "runtime.NumGoroutine") = false) (hkb : fk.body = some ck) (hkn : Nat.ble (caps.length + 1) fk.ntmps = true ∧ Nat.ble fk.ntmps 60000 = true) (hkr : fk.results = #[])
    (hc0 : HCode P G (some h.n) c0 ⟨⟨fn.ntmps, argsFr fn.ntmps args 0 .nil⟩, h⟩ (fun e s => e = .normal ∧ s = sA)) (hc1 : HCode P G (some h.n) c1 sA (fun e s => e = .normal ∧ s = ⟨AR, hB⟩))
    (hgv : AR.get tg = some (.func (.func g) [] caps))
    (hK : ∀ (l : Nat) (r : Loop), r.state = .ready → r.pending = none → r.params = #[tp] → r.assign = asg → r.body = body → HCodeB P G (YB hB.n l r AR) ck ⟨⟨fk.ntmps, argsFr fk.ntmps (.func (.yield l) [] [] :: caps) 0 .nil⟩, hB⟩ (fun e s => (∀ id, e ≠ .exit id) ∧ ∃ s', Weak G (some hB.n) s s' ∧ ΨK s'.heap))
    (d4 : ∀ o ∈ ops4, ∀ c, o.op ≠ .defer c)
    (h4 : ∀ hK, ΨK hK → ∃ s4, HOps P G (some hK.n) ops4 ops4.toList ⟨AR, hK⟩ (fun s => s = s4) ∧ ∃ s5, Weak G (some h.n) s4 s5 ∧ ∃ v, oneOrTuple (resultsR P fn.results.toList s5.tmps s5.heap) = some v ∧ Ψ (leave pol h.n v s5.heap).1 (leave pol h.n v s5.heap).2) :
    HCall P G f args h Ψ := by
  intro pl M w vs hg hr hv
  simp only [ble_iff, decide_eq_true_eq] at hn hkn
  simp only [beq_eq_false_iff_ne, ne_eq] at hN hkN
  left
  refine ⟨by simp [callFunc, hf, hN, hbd], (callsIn_wide (n := 1)).1 (callsIn_of_wp_marks hf hbd trivial ?_)⟩
  have hs0 : SNow G fn.ntmps h pl M w ⟨⟨fn.ntmps, argsFr fn.ntmps args 0 .nil⟩, h⟩ { tmps := vs ++ Array.replicate (fn.ntmps - vs.size) undef, defers := [] } w :=
    ⟨⟨pl, M, hg, hr, start_fr hv hn.1 hn.2, Step.refl _ _ _ _, Nat.le_refl _⟩, rfl, hn.2⟩
  have hbase : Base (some h.n) h pl := fun m hb => by cases hb; exact ⟨rfl, fun id p hq => hr.dom id p hq⟩
  refine wpIn_seq (wpIn_wide.2 (hc0 fn.ntmps h pl M w _ w _ hbase hs0 fun e s1 a1 w1 h1 hs1 => ?_))
  obtain ⟨rfl, rfl⟩ := h1
  refine wpIn_seq (wpIn_seq (wpIn_wide.2 (hc1 _ _ _ _ _ a1 w1 _ hbase hs1 fun e s2 a2 w2 h2 hs2 => ?_)))
  obtain ⟨rfl, rfl⟩ := h2
  obtain ⟨pl2, M2, k1, k2, k3, k4, k5⟩ := hs2.ex
  have hdef := k3.defers
  have hvg := (k3.at_ tg _ hgv).2
  obtain ⟨lb, hlb, hcl, hca⟩ : ∃ lb : Array Value, a2.eval (.tmp tg) = .func (.func g) #[] lb ∧ caps.length = lb.size ∧ ∀ j y, caps[j]? = some y → VRel pl2 M2 y (lb.getD j undef) := by
    show ∃ lb : Array Value, a2.tmps.getD tg undef = _ ∧ _
    generalize a2.tmps.getD tg undef = y at hvg
    cases hvg with
    | func q1 q2 q3 q4 =>
      simp at q1
      rename_i vs' ws'
      exact ⟨ws', by rw [Array.eq_empty_of_size_eq_zero q1.symm], q2, q4⟩
  refine wpIn_block (wpIn_rangeFunc fun fnm _ => ?_)
  obtain ⟨r, er⟩ : ∃ r : Loop, r = { state := .ready, pending := none, fn := fnm, tmps := a2.tmps, params := #[tp], assign := asg, body := body, defers := w2.heap.size } := ⟨_, rfl⟩
  obtain ⟨w3, ew3⟩ : ∃ w3, w3 = (w2.alloc (.deferred (some []))).alloc (.loop r) := ⟨_, rfl⟩
  have hb3 : Below w2.heap.size w2 w3 := by rw [ew3]; exact ((Below.refl _ w2).alloc (Nat.le_refl _) _).alloc (by simp) _
  have hD3 : OB w2.heap.size (.deferred (some [])) pl2 w3 :=
    ⟨by rw [ew3]; exact (Below.heap_alloc _ _ _ (by simp)).trans (World.alloc_heap_new w2 _), fun id p hp => by have := k2.blk id p hp; omega, fun _ _ _ e => by cases e⟩
  have hx3 : XB (w2.heap.size + 1) r pl2 w3 :=
    ⟨by rw [ew3]; have := World.alloc_heap_new (w2.alloc (.deferred (some []))) (.loop r); rwa [World.size_alloc] at this, fun id p hp => by have := k2.blk id p hp; omega, fun _ _ _ e => by cases e⟩
  have hr3 : Rep pl2 M2 hB w3 := k2.belowW hb3
  have hdr : w2.drawn ≤ w3.drawn := by rw [ew3]; exact Nat.le_refl _
  have hst3 : Step hB pl2 M2 w2 hB pl2 M2 w3 := Step.belowW hb3 hdr
  refine ⟨w2.heap.size + 1, [{ target := .collected w2.heap.size, args := #[] }], w3, { target := .fn (.func g) lb, args := #[.func (.yield (w2.heap.size + 1)) #[] #[]] }, w3, g, #[.func (.yield (w2.heap.size + 1)) #[] #[]] ++ lb, w3, ?_, ?_, fun _ _ => trivial, ?_, fun e => (by simp [Fence.wide] at e), callsIn_wide.2 (calls_of_wp hk hkb ?_)⟩
  · rw [ew3, er]; exact run_enterLoop_outer _ _ _ _ _
  · simp only [resolve, rangeCall, hlb, Deferred.ofValue, Sem.run_pure]; simp [Act.eval]
  · simp [invoke, callFunc, hk, hkN, hkb]
  · have hva : VRels pl2 M2 (.func (.yield (w2.heap.size + 1)) [] [] :: caps) (#[.func (.yield (w2.heap.size + 1)) #[] #[]] ++ lb) := by
      refine ⟨by simp [hcl]; omega, fun j y hj => ?_⟩
      match j, hj with
      | 0, hj =>
        simp at hj; subst hj
        have f0 : VRel pl2 M2 (.func (.yield (w2.heap.size + 1)) [] []) (.func (.yield (w2.heap.size + 1)) #[] #[]) := @VRel.func pl2 M2 _ [] [] #[] #[] rfl rfl (fun j y h => by simp at h) (fun j y h => by simp at h)
        have e0 : (#[Value.func (.yield (w2.heap.size + 1)) #[] #[]] ++ lb).getD 0 undef = .func (.yield (w2.heap.size + 1)) #[] #[] := by simp [Array.getD_eq_getD_getElem?, Array.getElem?_append]
        rw [e0]; exact f0
      | j + 1, hj =>
        have := hca j y (by simpa using hj)
        simp only [Array.getD_eq_getD_getElem?] at this ⊢
        rw [Array.getElem?_append_right (by simp)]
        simpa using this
    have hlen : (AV.func (.yield (w2.heap.size + 1)) [] [] :: caps).length ≤ fk.ntmps := by simpa using hkn.1
    have hsK : SNow G fk.ntmps hB pl2 M2 w3 ⟨⟨fk.ntmps, argsFr fk.ntmps (.func (.yield (w2.heap.size + 1)) [] [] :: caps) 0 .nil⟩, hB⟩ { tmps := (#[.func (.yield (w2.heap.size + 1)) #[] #[]] ++ lb) ++ Array.replicate (fk.ntmps - (#[Value.func (.yield (w2.heap.size + 1)) #[] #[]] ++ lb).size) undef, defers := [] } w3 :=
      ⟨⟨pl2, M2, k1, hr3, start_fr hva hlen hkn.2, Step.refl _ _ _ _, Nat.le_refl _⟩, rfl, hkn.2⟩
    have hbK : Base (some hB.n) hB pl2 := fun m hb => by cases hb; exact ⟨rfl, fun id p hq => k2.dom id p hq⟩
    have hAR : FrRel pl2 M2 AR ⟨r.tmps, []⟩ := by rw [er]; exact ⟨k3.size, rfl, k3.at_⟩
    refine hK (w2.heap.size + 1) r (by rw [er]) (by rw [er]) (by rw [er]) (by rw [er]) (by rw [er]) fk.ntmps hB pl2 M2 w3 _ w3 _ ⟨hbK, hx3, hAR⟩ hsK fun e s4 a4 w4 q4 hs4 => ?_
    obtain ⟨hne, s4', hW4, hΨ4⟩ := q4
    have hs4 := hW4 _ _ _ _ _ _ _ hbK hs4
    obtain ⟨pl4, M4, m1, m2, m3, m4, m5⟩ := hs4.ex
    have x4 := hx3.step m4
    have y4 := hD3.step m4
    have hres : (results fk a4.tmps).run P w4 = .ok (.tuple #[]) w4 := by
      rw [results_eq, hkr, Sem.run_bind, Array.mapM_eq_mapM_toList, Sem.run_map]; rfl
    obtain ⟨w5, ew5⟩ : ∃ w5, w5 = w4.putObj (w2.heap.size + 1) (.loop { r with state := .exhausted }) := ⟨_, rfl⟩
    have hend : (Instr.endLoop (w2.heap.size + 1)).run P w4 = .ok none w5 := by
      rw [run_endLoop x4.at_ (by rw [er]; intro e; cases e), ew5, er]
    have hsz : w.heap.size ≤ w2.heap.size := k4.size
    have hr5 : Rep pl4 M4 s4'.heap w5 := by rw [ew5]; exact Rep.putOb m2 x4 _
    have hst5 : Step h pl M w s4'.heap pl4 M4 w5 := by
      rw [ew5]; exact Step.putHigh ((k4.trans hst3 k5).trans m4 k5) (by omega) _
    have y5 : OB w2.heap.size (.deferred (some [])) pl4 w5 := by rw [ew5]; exact y4.other (by omega) _
    have hfr5 : FrRel pl4 M4 AR a2 := k3.mono m4.ext m4.mem
    have fin : a4.defers = [] ∧ ∃ v, (results fk a4.tmps).run P w4 = .ok v w4 ∧ rangePost Fence.wide 1 P (w2.heap.size + 1) (Exit.inBlock bl (Exit.then ((Code.seq (.region id4 ops4 false) .ret).wpIn Fence.wide 1 P (bodyPostM Fence.wide 1 P fn fun e w' => ∃ cv v h', e = .returned cv ∧ Ψ v h' ∧ After pl M h w v h' cv w'))
          (bodyPostM Fence.wide 1 P fn fun e w' => ∃ cv v h', e = .returned cv ∧ Ψ v h' ∧ After pl M h w v h' cv w'))) { a2 with defers := [{ target := .collected w2.heap.size, args := #[] }] ++ a2.defers } (.returned v) w4 := by
      refine ⟨m3.defers, _, hres, none, w5, hend, ?_⟩
      show (Code.seq (.region id4 ops4 false) .ret).wpIn Fence.wide 1 P _ _ w5
      rw [hdef]
      refine wpIn_seq ?_
      obtain ⟨s6, hp6, s7, hW7, v, hv7, hΨ7⟩ := h4 _ hΨ4
      have hs5 : SNow G fn.ntmps s4'.heap pl4 M4 w5 ⟨AR, s4'.heap⟩ a2 w5 := ⟨⟨pl4, M4, m1, hr5, hfr5, Step.refl _ _ _ _, Nat.le_refl _⟩, hs2.n, hs2.small⟩
      have hb5 : Base (some s4'.heap.n) s4'.heap pl4 := fun m hb => by cases hb; exact ⟨rfl, fun id p hq => m2.dom id p hq⟩
      refine regionIn (ro := none) (ds := [{ target := .collected w2.heap.size, args := #[] }]) d4 hp6 hb5 hs5 fun s' a6 w6 e6 hs6 => wpIn_ret ?_
      subst e6
      obtain ⟨pl6, M6, n1, n2, n3, n4, n5⟩ := hs6.ex
      have y6 := y5.step n4
      have hs6' : SNow G fn.ntmps h pl M w s' a6 (w6.putObj w2.heap.size (.deferred none)) :=
        ⟨⟨pl6, M6, n1, Rep.putOb n2 y6 _, n3, Step.putHigh (hst5.trans n4 (Nat.le_trans k5 m5)) hsz _, Nat.le_trans k5 (Nat.le_trans m5 n5)⟩, hs6.n, hs6.small⟩
      have hs7 := hW7 _ _ _ _ _ _ _ hbase hs6'
      obtain ⟨pl7, M7, t1, t2, t3, t4, t5⟩ := hs7.ex
      obtain ⟨cv, u1, u2⟩ := results_ok t2 t3 hv7
      obtain ⟨pl8, M8, z1, z2, z3, z4⟩ := leave_ok pol hr t2 u2 t4 t5 (rfl : leave pol h.n v s7.heap = ((leave pol h.n v s7.heap).1, (leave pol h.n v s7.heap).2))
      exact ⟨by simp, .inl ⟨w2.heap.size, _, rfl, run_takeDeferred y6.at_, cv, u1, cv, _, _, rfl, hΨ7, pl8, M8, z1, z2, z3, z4⟩⟩
    cases e with
    | exit id => exact absurd rfl (hne id)
    | normal => exact fin
    | ret => exact fin

end
end Go.Ev

/- Keys of a footprint, as Lean data; what a range over a func needs from a walk. -/
namespace Go.Ev
open Go

structure PKey where
  kind : Int
  act : Int
  item : Int
  n : Int
  nk : Int
  nl : List UInt8
  deriving DecidableEq, Inhabited

noncomputable def encKey (k : PKey) : AV := .agg [.int .i64 k.kind, .int .i64 k.act, .int .i64 k.item, .int .i64 k.n, .int .i64 k.nk, .str k.nl]
theorem encKey_top (k : PKey) : (encKey k).top = 0 := rfl
theorem entTops_key : ∀ (m : List (PKey × Bool)) (i : Nat), entTops (entsG encKey AV.bool m i) = 0
  | [], _ => rfl
  | (k, b) :: r, i => by simp only [entsG, entTops, encKey_top, entTops_key r, mx_0, AV.top]; trivial

section
variable {P : Program} {G : Env} {call : Caller} {m : Nat} {c : Code} {d : D} {s s' : St} {ops : Array Oper}

/-- A piece with one outcome. -/
theorem hcodeD (hm : P.follows .mixedOrders = true) (hG : GTop G) (hc : CallerOK P G call) (d : D) (e : (WP P G call m c).run d s (fun e _ s => e = .normal ∧ s = s') = (AExit.normal = .normal ∧ s' = s')) : HCode P G (some m) c s (fun e s => e = .normal ∧ s = s') :=
  WP_ok hm hG hc c d s _ _ (e ▸ ⟨rfl, rfl⟩) fun _ _ _ _ h => h
theorem hopsD (hG : GTop G) (hc : CallerOK P G call) (d : D) {W : Prop} (p : W) (e : WPo P G call m ops ops.toList d s (fun _ s => s = s') = W) : HOps P G (some m) ops ops.toList s (fun s => s = s') :=
  WPo_ok hG hc _ d s _ (e ▸ p) fun _ _ _ h => h
theorem hops1 (hG : GTop G) (hc : CallerOK P G call) (d : D) (e : WPo P G call m ops ops.toList d s (fun _ s => s = s') = (s' = s')) : HOps P G (some m) ops ops.toList s (fun s => s = s') := hopsD hG hc d (rfl : s' = s') e
theorem weakD (hG : GTop G) (hn : Nat.ble s.tmps.n 60000 = true) (d : D) {W : Prop} (p : W) (e : pre m d s (fun _ s1 => s1 = s') = W) : Weak G (some m) s s' :=
  pre_ok hG (Nat.le_of_ble_eq_true hn) (e ▸ p : pre m d s (fun _ s1 => s1 = s')) fun _ s1 _ hW h => h ▸ hW
theorem regionD (hG : GTop G) (hc : CallerOK P G call) {id : Nat} {Ψ : St → Prop} (d : D) {W : Prop} (p : W) (e : WPo P G call m ops ops.toList d s (fun _ s => Ψ s) = W) : HCode P G (some m) (.region id ops false) s (fun e s => e = .normal ∧ Ψ s) :=
  HCode.region (WPo_ok hG hc _ d s _ (e ▸ p) fun _ _ _ h => ⟨rfl, h⟩)
end

/-! A function of one map, wherever the map lies. -/
theorem entTops_0 : ∀ {es : List AEnt}, entTops es = 0 → ∀ e, e ∈ es → e.key.top = 0 ∧ e.val.top = 0
  | [], _, _, h => by cases h
  | x :: r, h, e, he => by
    simp only [entTops, mx_0] at h
    obtain ⟨⟨h1, h2⟩, h3⟩ : (x.key.top = 0 ∧ x.val.top = 0) ∧ entTops r = 0 := by
      obtain ⟨a, b⟩ := h
      first | exact ⟨a, b⟩ | exact ⟨⟨a, b.1⟩, b.2⟩
    rcases List.mem_cons.1 he with rfl | he
    · exact ⟨h1, h2⟩
    · exact entTops_0 h3 e he
theorem ObjRel.mapNone {pl pl' : Pl} {M : Mem} {p : Place} {es : List AEnt} {c : Nat} {x : Option Obj} (h : ObjRel pl M p (.map es c) x) (ht : entTops es = 0) : ObjRel pl' M p (.map es c) x := by
  match x, h with
  | some (.map entries c'), h =>
    obtain ⟨h1, h2, h3, h4⟩ := h
    refine ⟨h1, h2, h3, fun i e he => ?_⟩
    obtain ⟨e', q1, q2, q3, q4⟩ := h4 i e he
    obtain ⟨t1, t2⟩ := entTops_0 ht e (List.mem_of_getElem? he)
    exact ⟨e', q1, q2.none t1, q3.none t2, q4⟩
theorem HCall.ofMap {P : Program} {G : Env} (hG : GTop G) {f : FuncId} {es : List AEnt} {c : Nat} {v : AV} (ht : entTops es = 0) (hv : v.top = 0) (h0 : HCall P G f [.map 0] (mkH [.map es c]) (fun v1 h1 => v1 = v ∧ h1 = mkH [.map es c]))
    {h : AHeap} {id : Nat} (hg : h.get id = some (.map es c)) : HCall P G f [.map id] h (fun v1 h1 => v1 = v ∧ h1 = h) := by
  intro pl M w vs hG1 hr hvs
  have hv0 := hvs.at_ 0 _ rfl
  obtain ⟨p, r, hp, hpr, hx⟩ : ∃ p r, pl id = some p ∧ (p.ep = 0 → r = p.blk) ∧ vs.getD 0 undef = .map (some r) := by
    generalize vs.getD 0 undef = y at hv0
    cases hv0 with
    | map hp ha => exact ⟨_, _, hp, ha, rfl⟩
  have ho := hr.obj id p _ hp hg
  have hep : p.ep = 0 := by
    generalize w.heap[p.blk]? = y at ho
    match y, ho with
    | some (.map entries c'), ho => exact ho.1
  obtain ⟨pl1, epl⟩ : ∃ pl1 : Pl, pl1 = fun k => if k = 0 then some p else none := ⟨_, rfl⟩
  have hp1 : pl1 0 = some p := by rw [epl]; rfl
  have hq1 : ∀ k q, pl1 k = some q → k = 0 ∧ q = p := fun k q hk => by
    rw [epl] at hk
    simp only [] at hk
    split at hk
    · rename_i h0; cases hk; exact ⟨h0, rfl⟩
    · cases hk
  have hget : (mkH [AObj.map es c]).get 0 = some (.map es c) := rfl
  have hr1 : Rep pl1 M (mkH [.map es c]) w := by
    refine ⟨fun k q hk => ?_, fun k q o hk hgo => ?_, fun k q hk => ?_, fun k k' q q' hk hk' _ => ?_, hr.imm, fun k q hk => ?_⟩
    · rw [(hq1 k q hk).1]; exact Nat.zero_lt_one
    · obtain ⟨rfl, rfl⟩ := hq1 k q hk
      rw [hget] at hgo; cases hgo
      exact ho.mapNone ht
    · rw [(hq1 k q hk).2]; exact hr.blk id p hp
    · rw [(hq1 k q hk).1, (hq1 k' q' hk').1]
    · rw [(hq1 k q hk).2]; exact hr.sep id p hp
  have hvs1 : VRels pl1 M [.map 0] vs := ⟨hvs.len, fun j y hj => by
    match j, hj with
    | 0, hj =>
      simp at hj; subst hj
      rw [hx]; exact .map hp1 hpr
    | j + 1, hj => simp at hj⟩
  have fin : ∀ cv w', After pl1 M (mkH [.map es c]) w v (mkH [.map es c]) cv w' → After pl M h w v h cv w' := by
    intro cv w' ⟨pl2, M2, k1, k2, k3, k4⟩
    have kept : ∀ b, b < w.heap.size → b ≠ p.blk → w'.heap[b]? = w.heap[b]? := fun b hb hne => k3.kept b hb fun k q hk _ => by rw [(hq1 k q hk).2]; exact fun e => hne e.symm
    obtain ⟨p2, e1, e2, e3⟩ := k3.ext 0 p hp1
    have ho2 := k2.obj 0 p2 _ e1 hget
    have hep2 : p2.ep = 0 := by
      generalize w'.heap[p2.blk]? = y at ho2
      match y, ho2 with
      | some (.map entries c'), ho2 => exact ho2.1
    have e4 : p2 = p := e3 (by omega)
    subst e4
    refine ⟨pl, M2, k1.none hv, ⟨hr.dom, fun k q o hk hgo => ?_, fun k q hk => Nat.lt_of_lt_of_le (hr.blk k q hk) k3.size, hr.inj, k2.imm, fun k q hk => ?_⟩, ⟨Ext.refl _, fun _ _ h => h, k3.mem, k3.size, fun b hb hk => kept b hb fun e => ?_, fun k q hk => .inl ⟨q, hk, rfl⟩, fun _ _ _ h => h, fun _ _ h _ => h, k3.memNew, k3.os, k3.tape, k3.out, k3.drawn⟩, Nat.le_refl _⟩
    · by_cases e : q.blk = p2.blk
      · have := hr.inj k id q p2 hk hp e
        subst this
        rw [hp] at hk; cases hk
        rw [hg] at hgo; cases hgo
        exact ho2.mapNone ht
      · rw [kept _ (hr.blk k q hk) e]
        exact (hr.obj k q o hk hgo).mono (Ext.refl _) k3.mem
    · cases hM : M2 q.blk with
      | none => rfl
      | some c2 =>
        rcases k3.memNew _ c2 hM with k5 | k5
        · rw [hr.sep k q hk] at k5; cases k5
        · have := hr.blk k q hk; omega
    · exact hk id p2 hp (by rw [hg]; simp) e.symm
  rcases h0 pl1 M w vs (hG1.none hG) hr1 hvs1 with ⟨h1, h2⟩ | ⟨cv, w', v1, h1, q1, ⟨q2, q3⟩, q4⟩
  · exact .inl ⟨h1, Calls.mono h2 fun e w' ⟨cv, v1, h1, k1, ⟨k2, k3⟩, k4⟩ => ⟨cv, v, h, k1, ⟨rfl, rfl⟩, by subst k2; subst k3; exact fin cv w' k4⟩⟩
  · exact .inr ⟨cv, w', v, h, q1, ⟨rfl, rfl⟩, by subst q2; subst q3; exact fin cv w' q4⟩

/-! Entries read back. -/
def decEnt (i : Nat) : AEnt → Option (PKey × Bool)
  | ⟨.agg [.int .i64 a, .int .i64 b, .int .i64 c, .int .i64 d, .int .i64 e, .str s], .bool v, j⟩ => match Nat.beq i j with | true => some (⟨a, b, c, d, e, s⟩, v) | false => none
  | _ => none
def decThen (x : Option (PKey × Bool)) (r : Option (List (PKey × Bool))) : Option (List (PKey × Bool)) := match x, r with
  | some x, some r => some (x :: r)
  | _, _ => none
def decEnts : List AEnt → Nat → Option (List (PKey × Bool))
  | [], _ => some []
  | x :: r, i => decThen (decEnt i x) (decEnts r (i + 1))
theorem decEnt_ok {i : Nat} {x : AEnt} {k : PKey × Bool} (h : decEnt i x = some k) : x = ⟨encKey k.1, .bool k.2, i⟩ := by
  unfold decEnt at h
  split at h
  · split at h
    · rename_i q
      cases h
      rw [Nat.eq_of_beq_eq_true q]; rfl
    · cases h
  · cases h
theorem decEnts_ok : ∀ {es : List AEnt} {i : Nat} {m : List (PKey × Bool)}, decEnts es i = some m → es = entsG encKey AV.bool m i
  | [], _, _, h => by cases h; rfl
  | x :: r, i, m, h => by
    simp only [decEnts, decThen] at h
    split at h
    · rename_i k l q1 q2
      cases h
      obtain ⟨k1, k2⟩ := k
      rw [decEnt_ok q1, decEnts_ok q2]; rfl
    · cases h
end Go.Ev

/- Keys in their order: the comparison, its law, sorting. -/
namespace Go.Ev
open Go

def cmpS (x y : List UInt8) : Int := match ltB x y with | true => -1 | false => match ltB y x with | true => 1 | false => 0
def orL : List Int → Int
  | [] => 0
  | x :: r => match eqI x 0 with | true => orL r | false => x
def cmpK (a b : PKey) : Int := orL [cmpI a.kind b.kind, cmpI a.act b.act, cmpI a.item b.item, cmpI a.n b.n, cmpI a.nk b.nk, cmpS a.nl b.nl]

/-- A comparison that orders. -/
structure OrdC {α : Type} (c : α → α → Int) : Prop where
  refl : ∀ a, c a a = 0
  anti : ∀ a b, c a b = - c b a
  trans : ∀ a b d, c a b ≤ 0 → c b d ≤ 0 → c a d ≤ 0

section
variable {α β : Type}
theorem OrdC.lt {c : α → α → Int} (h : OrdC c) {a b d : α} (h1 : c a b < 0) (h2 : c b d ≤ 0) : c a d < 0 := by
  have e1 := h.anti d a
  have e2 := h.anti b a
  by_cases q : c a d < 0
  · exact q
  · have h3 : c d a ≤ 0 := by omega
    have := h.trans b d a h2 h3
    omega
theorem OrdC.lt' {c : α → α → Int} (h : OrdC c) {a b d : α} (h1 : c a b ≤ 0) (h2 : c b d < 0) : c a d < 0 := by
  have e1 := h.anti d a
  have e2 := h.anti d b
  by_cases q : c a d < 0
  · exact q
  · have h3 : c d a ≤ 0 := by omega
    have := h.trans d a b h3 h1
    omega
theorem OrdC.on {c : α → α → Int} (h : OrdC c) (f : β → α) : OrdC (fun a b => c (f a) (f b)) := ⟨fun a => h.refl _, fun a b => h.anti _ _, fun a b d => h.trans _ _ _⟩
theorem OrdC.lex {c e : α → α → Int} (h : OrdC c) (k : OrdC e) : OrdC (fun a b => match eqI (c a b) 0 with | true => e a b | false => c a b) := by
  have E : ∀ a b, (match eqI (c a b) 0 with | true => e a b | false => c a b) = if c a b = 0 then e a b else c a b := fun a b => by
    by_cases q : c a b = 0
    · rw [if_pos q, q]; rfl
    · rw [if_neg q]
      cases q2 : eqI (c a b) 0 with
      | true => exact absurd (eqI_t q2) q
      | false => rfl
  refine ⟨fun a => ?_, fun a b => ?_, fun a b d => ?_⟩
  · rw [E, if_pos (h.refl a), k.refl]
  · rw [E, E]
    have := h.anti a b
    have := k.anti a b
    split <;> split <;> omega
  · rw [E, E, E]
    intro h1 h2
    have t1 := h.trans a b d
    have t2 := k.trans a b d
    have l1 := @OrdC.lt _ _ h a b d
    have l2 := @OrdC.lt' _ _ h a b d
    split at h1 <;> split at h2 <;> split <;> omega
end
theorem cmpI_eq (a b : Int) : cmpI a b = if a < b then -1 else if b < a then 1 else 0 := by
  unfold cmpI
  cases q : ltI a b with
  | true => rw [if_pos (ltI_true q)]
  | false =>
    have := ltI_false q
    rw [if_neg (by omega)]
    cases q2 : ltI b a with
    | true => rw [if_pos (ltI_true q2)]
    | false => have := ltI_false q2; rw [if_neg (by omega)]
theorem ordI : OrdC cmpI := by
  refine ⟨fun a => ?_, fun a b => ?_, fun a b d => ?_⟩ <;> simp only [cmpI_eq]
  · simp
  · split <;> split <;> (try split) <;> omega
  · intro h1 h2
    split at h1 <;> split at h2 <;> (try split at h1) <;> (try split at h2) <;> split <;> (try split) <;> omega
theorem cmpI_zero {a b : Int} (h : cmpI a b = 0) : a = b := by
  rw [cmpI_eq] at h
  split at h
  · omega
  · split at h <;> omega
theorem ltB_cons (a b : UInt8) (x y : List UInt8) : ltB (a :: x) (b :: y) = if a.toNat < b.toNat then true else if b.toNat < a.toNat then false else ltB x y := by
  simp only [ltB]
  cases q : Nat.blt a.toNat b.toNat with
  | true => rw [if_pos (Nat.blt_eq ▸ q)]; rfl
  | false =>
    have h1 : ¬ a.toNat < b.toNat := fun h => by rw [show Nat.blt a.toNat b.toNat = true from Nat.blt_eq.symm ▸ h] at q; cases q
    rw [if_neg h1]
    cases q2 : Nat.beq a.toNat b.toNat with
    | true =>
      have := Nat.eq_of_beq_eq_true q2
      rw [if_neg (by omega)]; rfl
    | false =>
      have h2 : a.toNat ≠ b.toNat := fun h => by rw [h, Nat.beq_refl] at q2; cases q2
      rw [if_pos (by omega)]; rfl
theorem cmpS_cons (a b : UInt8) (x y : List UInt8) : cmpS (a :: x) (b :: y) = if a.toNat < b.toNat then -1 else if b.toNat < a.toNat then 1 else cmpS x y := by
  unfold cmpS
  rw [ltB_cons, ltB_cons]
  by_cases h1 : a.toNat < b.toNat
  · simp [h1]
  · by_cases h2 : b.toNat < a.toNat
    · simp [h1, h2]
    · simp [h1, h2]
theorem cmpS_refl : ∀ (x : List UInt8), cmpS x x = 0
  | [] => rfl
  | a :: r => by rw [cmpS_cons, if_neg (Nat.lt_irrefl _), if_neg (Nat.lt_irrefl _)]; exact cmpS_refl r
theorem cmpS_anti : ∀ (x y : List UInt8), cmpS x y = - cmpS y x
  | [], [] => rfl
  | [], _ :: _ => rfl
  | _ :: _, [] => rfl
  | a :: x, b :: y => by
    have := cmpS_anti x y
    rw [cmpS_cons, cmpS_cons]
    split <;> split <;> (try split) <;> omega
theorem cmpS_nil (y : List UInt8) : cmpS [] y ≤ 0 := by
  cases y with
  | nil => exact Int.le_refl _
  | cons => show (-1 : Int) ≤ 0; decide
theorem cmpS_trans : ∀ (x y z : List UInt8), cmpS x y ≤ 0 → cmpS y z ≤ 0 → cmpS x z ≤ 0
  | [], _, z, _, _ => cmpS_nil z
  | a :: x, [], z, h, _ => absurd h (by show ¬ (1 : Int) ≤ 0; decide)
  | a :: x, b :: y, [], _, h => absurd h (by show ¬ (1 : Int) ≤ 0; decide)
  | a :: x, b :: y, c :: z, h1, h2 => by
    have := cmpS_trans x y z
    rw [cmpS_cons] at h1 h2 ⊢
    split at h1 <;> split at h2 <;> (try split at h1) <;> (try split at h2) <;> split <;> (try split) <;> omega
theorem ordS : OrdC cmpS := ⟨cmpS_refl, cmpS_anti, cmpS_trans⟩
theorem cmpS_zero : ∀ {x y : List UInt8}, cmpS x y = 0 → x = y
  | [], [], _ => rfl
  | [], _ :: _, h => by cases (show (-1 : Int) = 0 from h)
  | _ :: _, [], h => by cases (show (1 : Int) = 0 from h)
  | a :: x, b :: y, h => by
    rw [cmpS_cons] at h
    split at h
    · cases h
    · split at h
      · cases h
      · have := cmpS_zero h
        rw [this, UInt8.toNat_inj.1 (show a.toNat = b.toNat by omega)]
theorem gtB : ∀ (x y : List UInt8), ltB y x = !(ltB x y || eqB x y)
  | [], [] => rfl
  | [], _ :: _ => rfl
  | _ :: _, [] => rfl
  | a :: x, b :: y => by
    have := gtB x y
    rw [ltB_cons, ltB_cons]
    simp only [eqB]
    by_cases h1 : a.toNat < b.toNat
    · have h3 : ¬ b.toNat < a.toNat := by omega
      simp [h1, h3]
    · by_cases h2 : b.toNat < a.toNat
      · have h3 : Nat.beq a.toNat b.toNat = false := by
          cases q : Nat.beq a.toNat b.toNat with
          | false => rfl
          | true => have := Nat.eq_of_beq_eq_true q; omega
        simp [h1, h2, h3]
      · have h3 : Nat.beq a.toNat b.toNat = true := by
          have : a.toNat = b.toNat := by omega
          rw [this]; exact Nat.beq_refl _
        simp [h1, h2, h3, this]
theorem orL_cons (x : Int) (r : List Int) : orL (x :: r) = match eqI x 0 with | true => orL r | false => x := rfl
theorem orL_one (x : Int) : orL [x] = x := by
  rw [orL_cons]
  cases q : eqI x 0 with
  | true => exact (eqI_t q).symm
  | false => rfl
theorem ordK : OrdC cmpK := by
  have h := (ordI.on PKey.kind).lex ((ordI.on PKey.act).lex ((ordI.on PKey.item).lex ((ordI.on PKey.n).lex ((ordI.on PKey.nk).lex (ordS.on PKey.nl)))))
  refine cast (congrArg OrdC ?_) h
  funext a b
  rw [cmpK, orL_cons, orL_cons, orL_cons, orL_cons, orL_cons, orL_one]
theorem cmpK_zero {a b : PKey} (h : cmpK a b = 0) : a = b := by
  have key : ∀ {x : Int} {r : List Int}, orL (x :: r) = 0 → x = 0 ∧ orL r = 0 := fun {x r} h => by
    rw [orL_cons] at h
    cases q : eqI x 0 with
    | true => rw [q] at h; exact ⟨eqI_t q, h⟩
    | false => rw [q] at h; exact absurd h (eqI_f q)
  obtain ⟨h1, h⟩ := key h
  obtain ⟨h2, h⟩ := key h
  obtain ⟨h3, h⟩ := key h
  obtain ⟨h4, h⟩ := key h
  obtain ⟨h5, h⟩ := key h
  obtain ⟨h6, _⟩ := key h
  cases a; cases b
  simp only [PKey.mk.injEq]
  exact ⟨cmpI_zero h1, cmpI_zero h2, cmpI_zero h3, cmpI_zero h4, cmpI_zero h5, cmpS_zero h6⟩

/-! Sorting. -/
def insK (k : PKey) : List PKey → List PKey
  | [] => [k]
  | x :: r => match ltI (cmpK x k) 0 with | true => x :: insK k r | false => k :: x :: r
def sortK : List PKey → List PKey
  | [] => []
  | k :: r => insK k (sortK r)
theorem insK_perm (k : PKey) : ∀ (l : List PKey), (insK k l).Perm (k :: l)
  | [] => .refl _
  | x :: r => by
    unfold insK
    split
    · exact ((insK_perm k r).cons x).trans (.swap k x r)
    · exact .refl _
theorem sortK_perm : ∀ (l : List PKey), (sortK l).Perm l
  | [] => .refl _
  | k :: r => (insK_perm k _).trans ((sortK_perm r).cons k)
theorem insK_sorted (k : PKey) : ∀ {l : List PKey}, l.Pairwise (fun a b => cmpK a b ≤ 0) → (insK k l).Pairwise (fun a b => cmpK a b ≤ 0)
  | [], _ => by simp [insK]
  | x :: r, h => by
    obtain ⟨h1, h2⟩ := List.pairwise_cons.1 h
    unfold insK
    split
    · rename_i q
      have := ltI_true q
      refine List.pairwise_cons.2 ⟨fun y hy => ?_, insK_sorted k h2⟩
      rcases List.mem_cons.1 ((insK_perm k r).mem_iff.1 hy) with rfl | hy
      · omega
      · exact h1 y hy
    · rename_i q
      have h3 := ltI_false q
      have h4 := ordK.anti x k
      have h5 : cmpK k x ≤ 0 := by omega
      refine List.pairwise_cons.2 ⟨fun y hy => ?_, h⟩
      rcases List.mem_cons.1 hy with rfl | hy
      · exact h5
      · exact ordK.trans _ _ _ h5 (h1 y hy)
theorem sortK_sorted : ∀ (l : List PKey), (sortK l).Pairwise (fun a b => cmpK a b ≤ 0)
  | [] => .nil
  | k :: r => insK_sorted k (sortK_sorted r)
theorem sorted_eq {l l' : List PKey} (hp : l'.Perm l) (hs : l'.Pairwise fun a b => cmpK a b ≤ 0) : l' = sortK l :=
  List.Perm.eq_of_pairwise (le := fun a b => cmpK a b ≤ 0) (fun a b _ _ h1 h2 => cmpK_zero (by have := ordK.anti a b; omega)) hs (sortK_sorted l) (hp.trans (sortK_perm l).symm)
theorem ltK (a b : PKey) : Go.Ev.ltBy cmpK b a = false ↔ cmpK a b ≤ 0 := by
  unfold ltBy
  have := ordK.anti a b
  rw [decide_eq_false_iff_not]
  omega
theorem swoK : Go.Sort.SWO (ltBy cmpK) := by
  refine ⟨fun x => ?_, fun x y z h1 h2 => ?_, fun x y z h1 h2 => ?_⟩
  · rw [ltK, ordK.refl]; decide
  · have h1 := of_decide_eq_true h1
    have h2 := of_decide_eq_true h2
    exact decide_eq_true (ordK.lt h1 (by omega))
  · rw [ltK] at *
    exact ordK.trans _ _ _ h2 h1
end Go.Ev

/- Labels, as the reference has them. -/
namespace Go.Ev
open Go

theorem dig_step {p : UInt8 → Bool} {s : Str} {n : Nat} (h : ∀ j, j < n → p (gD s j) = true) (hn : p (gD s n) = true) : ∀ j, j < n + 1 → p (gD s j) = true := fun j hj => by
  by_cases e : j = n
  · rw [e]; exact hn
  · exact h j (by omega)
theorem gD_take {s : Str} : ∀ {n i : Nat}, i < n → gD (s.take n) i = gD s i := fun {n i} h => by
  induction s generalizing n i with
  | nil => simp
  | cons c r ih =>
    cases n with
    | zero => omega
    | succ n =>
      cases i with
      | zero => rfl
      | succ i => exact ih (by omega)
theorem labelB_eq (s : Str) : labelB s = (bnot (ltI (.ofNat (runB digB s)) 1) && (bnot (ltI 4 (.ofNat (runB digB s))) && (bnot (eqI (.ofNat (gD s 0).toNat) 48) && (bnot (ltI 3 (.ofNat (s.length - runB digB s))) && (s.drop (runB digB s)).all capB)))) := by
  have hl := runB_le (p := digB) (s := s)
  have h1 : (s.take (runB digB s)).length = runB digB s := by rw [List.length_take]; omega
  unfold labelB
  rw [h1, List.length_drop]
  by_cases h0 : runB digB s = 0
  · rw [h0]; rfl
  · rw [gD_take (by omega)]
theorem drop_gD {s : Str} : ∀ {n i : Nat}, n + i < s.length → gD (s.drop n) i = gD s (n + i) := fun {n i} h => by
  induction n generalizing s with
  | zero => simp
  | succ n ih =>
    cases s with
    | nil => simp at h
    | cons c r =>
      have := ih (s := r) (by simp only [List.length_cons] at h; omega)
      rw [show n + 1 + i = (n + i) + 1 by omega]
      exact this
theorem all_gD {p : UInt8 → Bool} : ∀ {s : Str}, (∀ i, i < s.length → p (gD s i) = true) → s.all p = true
  | [], _ => rfl
  | c :: r, h => by
    rw [List.all_cons, show p c = true from h 0 (Nat.zero_lt_succ _), all_gD (s := r) fun i hi => h (i + 1) (Nat.succ_lt_succ hi)]; rfl
theorem all_gD_no {p : UInt8 → Bool} : ∀ {s : Str} {i : Nat}, i < s.length → p (gD s i) = false → s.all p = false
  | [], _, h, _ => absurd h (Nat.not_lt_zero _)
  | c :: r, 0, _, h => by rw [List.all_cons, show p c = false from h]; rfl
  | c :: r, i + 1, h1, h2 => by
    rw [List.all_cons, all_gD_no (s := r) (i := i) (by simpa using h1) h2]; simp
/-- Behind the digits. -/
theorem tail_yes {p : UInt8 → Bool} {s : Str} {n : Nat} (h : ∀ j, n ≤ j → j < s.length → p (gD s j) = true) : (s.drop n).all p = true :=
  all_gD fun i hi => by
    rw [List.length_drop] at hi
    rw [drop_gD (by omega)]
    exact h _ (by omega) (by omega)
theorem tail_no {p : UInt8 → Bool} {s : Str} {n i : Nat} (h1 : n ≤ i) (h2 : i < s.length) (h3 : p (gD s i) = false) : (s.drop n).all p = false :=
  all_gD_no (i := i - n) (by rw [List.length_drop]; omega) (by rw [drop_gD (by omega), show n + (i - n) = i by omega]; exact h3)
theorem tail_step {p : UInt8 → Bool} {s : Str} {n i : Nat} (h : ∀ j, n ≤ j → j < i → p (gD s j) = true) (hi : p (gD s i) = true) : ∀ j, n ≤ j → j < i + 1 → p (gD s j) = true := fun j h1 h2 => by
  by_cases e : j = i
  · rw [e]; exact hi
  · exact h j h1 (by omega)
theorem lt01 (k : Int) : ltI 0 k = bnot (ltI k 1) := by
  cases h : ltI k 1 with
  | true => exact ltI_f (by have := ltI_true h; omega)
  | false => exact ltI_t (by have := ltI_false h; omega)
/-- Texts joined. -/
theorem cat_val {s u : List UInt8} {H : AHeap} (h : s.length + u.length ≤ 2 ^ 62) : retV H (addR (.str s) (.str u)) = some (.val (.str (s ++ u)) H) := by
  have e : Nat.ble (s.length + u.length) (2 ^ 62) = true := Nat.ble_eq_true_of_le h
  simp only [addR, e, retV]
end Go.Ev
