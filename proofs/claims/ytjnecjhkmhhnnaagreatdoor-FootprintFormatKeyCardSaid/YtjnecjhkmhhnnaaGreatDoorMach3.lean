/- An abstract machine for closed runs and for walks, proved sound against the model: part 3 of 8. No conditions. -/
import Derived.Test.YtjnecjhkmhhnnaaGreatDoorMach2
import Derived.MapKept

/- append, copy, clear. -/
namespace Go.Ev
open Go

section
variable {P : Program} {G : Env} {pl : Pl} {M : Mem} {h h' : AHeap} {w w' : World} {v : AV} {A : Fr} {a : Act}

/-- Elements 'new' laid over a row's from element 'k' on. -/
theorem InMem.over {c : Array Value} {sz k : Nat} {xs new ys : List AV} {news : List Value} (hx : InMem pl M c 0 sz xs) (hn : InMem pl M news.toArray 0 sz new) (hnl : news.length = new.length * sz)
    (hfit : (k + new.length) * sz ≤ c.size) (hys : ys.length * sz ≤ c.size)
    (hy : ∀ (i : Nat) (x : AV), ys[i]? = some x → (i < k ∧ xs[i]? = some x) ∨ (k ≤ i ∧ i < k + new.length ∧ new[i - k]? = some x) ∨ (k + new.length ≤ i ∧ xs[i]? = some x)) :
    k * sz + news.length ≤ c.size ∧ InMem pl M (Ev.over c (k * sz) news) 0 sz ys := by
  have hl : k * sz + news.length ≤ c.size := by rw [hnl, ← Nat.add_mul]; exact hfit
  refine ⟨hl, by rw [over_size hl]; simpa using hys, fun x hxm => ?_, fun i x j y hi hj => ?_⟩
  · obtain ⟨i, hi⟩ := List.mem_iff_getElem?.1 hxm
    rcases hy i x hi with ⟨_, q⟩ | ⟨_, _, q⟩ | ⟨_, q⟩
    · exact hx.elem x (List.mem_of_getElem? q)
    · exact hn.elem x (List.mem_of_getElem? q)
    · exact hx.elem x (List.mem_of_getElem? q)
  · have hjs : j < sz := by
      have := (List.getElem?_eq_some_iff.1 hj).1
      rcases hy i x hi with ⟨_, q⟩ | ⟨_, _, q⟩ | ⟨_, q⟩
      · rw [(hx.elem x (List.mem_of_getElem? q)).1] at this; exact this
      · rw [(hn.elem x (List.mem_of_getElem? q)).1] at this; exact this
      · rw [(hx.elem x (List.mem_of_getElem? q)).1] at this; exact this
    rcases hy i x hi with ⟨q0, q⟩ | ⟨q0, q1, q⟩ | ⟨q0, q⟩
    · have h1 : (i + 1) * sz ≤ k * sz := Nat.mul_le_mul_right _ q0
      rw [Nat.add_mul] at h1
      rw [over_getD_out hl (by omega)]
      exact hx.cell i x j y q hj
    · have h1 : i * sz = k * sz + (i - k) * sz := by rw [← Nat.add_mul]; congr 1; omega
      have h2 : (i - k + 1) * sz ≤ new.length * sz := Nat.mul_le_mul_right _ (by omega)
      rw [Nat.add_mul] at h2
      have h3 := hn.cell (i - k) x j y q hj
      rw [Array.getD_eq_getD_getElem?, List.getElem?_toArray] at h3
      rw [show 0 + i * sz + j = k * sz + ((i - k) * sz + j) by omega, over_getD_in hl (by rw [hnl]; omega), List.getD_eq_getElem?_getD]
      rw [Nat.zero_add] at h3
      exact h3
    · have h1 : (k + new.length) * sz ≤ i * sz := Nat.mul_le_mul_right _ q0
      rw [Nat.add_mul, ← hnl] at h1
      rw [over_getD_out hl (by omega)]
      exact hx.cell i x j y q hj

theorem writeAt_length {xs new : List AV} {k : Nat} (hl : k + new.length ≤ xs.length) : (writeAt xs k new).length = xs.length := by simp [writeAt]; omega

theorem writeAt_get {xs new : List AV} {k : Nat} (hl : k + new.length ≤ xs.length) {i : Nat} {x : AV} (hi : (writeAt xs k new)[i]? = some x) :
    (i < k ∧ xs[i]? = some x) ∨ (k ≤ i ∧ i < k + new.length ∧ new[i - k]? = some x) ∨ (k + new.length ≤ i ∧ xs[i]? = some x) := by
  rcases splice_get (cs := xs) (new := new) (off := k) hl hi with ⟨a1, a2, a3⟩ | ⟨a1 | a1, a2⟩
  · exact .inr (.inl ⟨a1, a2, a3⟩)
  · exact .inl ⟨a1, a2⟩
  · exact .inr (.inr ⟨a1, a2⟩)

/-- What is appended or copied: the elements, and how the model gets at them. -/
structure SrcRel (P : Program) (pl : Pl) (M : Mem) (w : World) (cx : Value) (ys : List AV) (sz : Nat) (news : List Value) : Prop where
  len : ∀ w' : World, (Builtin.lenOf cx).run P w' = .ok ys.length w'
  cells : ∀ n, n ≤ ys.length → ∀ w' : World, w'.heap = w.heap → (Builtin.firstCells sz n cx).run P w' = .ok (news.take (n * sz)).toArray w'
  newsLen : news.length = ys.length * sz
  mem : InMem pl M news.toArray 0 sz ys

theorem cell_heap {w w' : World} (h : w'.heap = w.heap) (a : Addr) : w'.cell? a = w.cell? a := by simp [World.cell?, h]

theorem src_ok (hr : Rep pl M h w) {x : AV} {cx : Value} {ys : List AV} (hx : VRel pl M x cx) (he : srcR h x = some ys) {sz : Nat} (hne : ys ≠ []) (hfit : fits sz ys = true) : ∃ news, SrcRel P pl M w cx ys sz news := by
  have hf := fits_ok hfit
  unfold srcR at he
  split at he
  · rename_i s
    simp at he
    subst he
    have hs : sz = 1 := by
      cases s with
      | nil => exact absurd rfl hne
      | cons b r => exact ((hf _ (by simp; exact .inl rfl)).1).symm
    subst hs
    cases hx
    refine ⟨s.map fun b => .int .u8 (b.toNat : Int), ⟨fun w' => by simp [Builtin.lenOf]; rfl, fun n hn w' _ => ?_, by simp, ⟨by simp, fun x hx => ?_, fun i x j y hi hj => ?_⟩⟩⟩
    · simp only [Builtin.firstCells, Sem.run_pure, Nat.mul_one]
      congr 1
      apply Array.ext'
      simp [ByteArray.extract, ByteArray.copySlice, List.map_take]
    · simp at hx
      obtain ⟨b, _, rfl⟩ := hx
      exact ⟨rfl, fun y hy => by simp [AV.cells] at hy; subst hy; rfl⟩
    · rw [List.getElem?_map] at hi
      cases hsi : s[i]? with
      | none => simp [hsi] at hi
      | some b =>
        simp [hsi] at hi
        subst hi
        cases j with
        | succ j => simp [AV.cells] at hj
        | zero =>
          simp [AV.cells] at hj
          subst hj
          simp [Array.getD_eq_getD_getElem?, hsi]
          exact .int _ _
  · rcases elems_src hr hx he with ⟨_, h2⟩ | ⟨ad, cap', news, sz', h1, h2, h3, h4, h5⟩
    · exact absurd h2 hne
    · have hs : sz' = sz := by
        cases ys with
        | nil => exact absurd rfl hne
        | cons y r => rw [← (h5.elem y (by simp)).1]; exact (hf y (by simp)).1
      subst hs
      subst h1
      refine ⟨news, ⟨fun w' => rfl, fun n hn w' hw => ?_, h2, h5⟩⟩
      have hnl : (news.take (n * sz')).length = n * sz' := by
        rw [List.length_take, h2]
        exact Nat.min_eq_left (Nat.mul_le_mul_right _ hn)
      exact run_firstCells_some w' sz' n ad _ cap' _ hnl (fun j u hj => by
        rw [cell_heap hw]
        have hlt := (List.getElem?_eq_some_iff.1 hj).1
        rw [hnl] at hlt
        rw [List.getElem?_take_of_lt hlt] at hj
        exact h3 j u hj)

theorem SrcRel.one {cx : Value} {ys : List AV} {sz : Nat} {news : List Value} (hs : SrcRel P pl M w cx ys sz news) : ∀ u ∈ news, u.oneCell' = true := by
  intro u hu
  obtain ⟨j, hj, rfl⟩ := List.mem_iff_getElem.1 hu
  have hpos : 0 < sz := by
    rcases Nat.eq_zero_or_pos sz with h0 | h0
    · rw [hs.newsLen, h0] at hj; omega
    · exact h0
  have hj2 : j < ys.length * sz := by rw [← hs.newsLen]; exact hj
  have hi : j / sz < ys.length := (Nat.div_lt_iff_lt_mul hpos).2 hj2
  have hx : ys[j / sz]? = some ys[j / sz] := List.getElem?_eq_getElem hi
  have he := hs.mem.elem ys[j / sz] (List.getElem_mem hi)
  have hm : j % sz < ys[j / sz].cells.length := by rw [he.1]; exact Nat.mod_lt _ hpos
  have hy := List.getElem?_eq_getElem hm
  have hc := hs.mem.cell (j / sz) _ (j % sz) _ hx hy
  have e1 : 0 + j / sz * sz + j % sz = j := by rw [Nat.zero_add, Nat.mul_comm]; exact Nat.div_add_mod j sz
  rw [e1, Array.getD_eq_getD_getElem?, List.getElem?_toArray, List.getElem?_eq_getElem hj, Option.getD_some] at hc
  exact hc.one (he.2 _ (List.getElem_mem hm))

theorem SrcRel.src {cx : Value} {ys : List AV} {sz : Nat} {news : List Value} (hs : SrcRel P pl M w cx ys sz news) {tx : TypeId} (hk : (∃ e', P.underlying tx = some (.slice e')) ∨ P.underlying tx = some .string) :
    Src P sz tx cx ys.length news w := by
  have e1 := hs.cells ys.length (Nat.le_refl _)
  rw [← hs.newsLen, List.take_length] at e1
  exact ⟨hk, hs.len, e1 w rfl, e1 w.drew rfl, hs.newsLen, hs.one⟩

theorem append_types {ts : Array TypeId} {t tx ty : TypeId} {args : Array Value} (h0 : ts[0]? = some t) (h1 : ts[1]? = some tx) : Builtin.append_ ts ty args = Builtin.append_ #[t, tx] ty args := by
  unfold Builtin.append_
  simp only [h0, h1]
  rfl
/-- A new row behind an append that grows. -/
theorem newRow_ok (hr : Rep pl M h w) {e : TypeId} {sz : Nat} {zs ys : List AV} {z : Value} {w2 : World} {cells : Array Value} {cap : Nat} (hs0 : 0 < sz) (hw : w2.heap = w.heap.push (.cells cells e)) (hs : WSame w w2)
    (hsz : cells.size = cap * sz) (hcap : ys.length ≤ cap) (hin : InMem pl M cells 0 sz ys) :
    ∃ pl', VRel pl' M (.slice h.n 0 0 ys.length none) (.slice (some ⟨w.heap.size, 0, none⟩) ys.length cap) ∧ Rep pl' M (h.push (.row sz true 0 ys)) w2 ∧ Step h pl M w (h.push (.row sz true 0 ys)) pl' M w2 := by
  let p : Place := ⟨w.heap.size, 0, sz, ys.length, cap * sz⟩
  have hext : Ext pl (upd pl h.n p) := fun id q hq => ⟨q, by rw [upd_other (by have := hr.dom id q hq; omega)]; exact hq, Nat.le_refl _, fun _ => rfl⟩
  obtain ⟨r1, r2⟩ := Rep.alloc (o := .row sz true 0 ys) (p := p) hr hw hs rfl ⟨rfl, rfl, rfl, hsz.symm, rfl, hs0, fun hh => by (cases hh), hin.mono hext (fun _ _ h => h)⟩
  exact ⟨_, .slice (upd_same _ _ _) (Nat.le_refl _) hcap (fun k hk => by cases hk) (fun _ => ⟨.inr (by simp [p]), by simp [p], by simp [p], (fun _ => by simpa [p] using hcap), (fun k hk => by cases hk)⟩), r1, r2⟩

theorem newRowR_some {sz : Nat} {xs : List AV} {r : AV × AHeap} (e : newRowR sz h xs = some r) : r = (.slice h.n 0 0 xs.length none, h.push (.row sz true 0 xs)) := by simp [newRowR] at e; exact e.symm

theorem inMem_append {sz : Nat} {xs ys : List AV} {olds news : List Value} (h1 : InMem pl M olds.toArray 0 sz xs) (h2 : InMem pl M news.toArray 0 sz ys) (l1 : olds.length = xs.length * sz) (l2 : news.length = ys.length * sz) (rest : Array Value) :
    InMem pl M ((olds ++ news).toArray ++ rest) 0 sz (xs ++ ys) := by
  refine ⟨by simp [l1, l2, Nat.add_mul], fun x hx => ?_, fun i x j y hi hj => ?_⟩
  · rcases List.mem_append.1 hx with hx | hx
    · exact h1.elem x hx
    · exact h2.elem x hx
  · by_cases hlt : i < xs.length
    · rw [List.getElem?_append_left hlt] at hi
      have h3 := h1.cell i x j y hi hj
      have hjs : j < sz := by
        have := (List.getElem?_eq_some_iff.1 hj).1
        rw [(h1.elem x (List.mem_of_getElem? hi)).1] at this; exact this
      have h4 : (i + 1) * sz ≤ xs.length * sz := Nat.mul_le_mul_right _ hlt
      rw [Nat.add_mul] at h4
      have h5 : 0 + i * sz + j < olds.length := by rw [l1]; omega
      rw [Array.getD_eq_getD_getElem?] at h3 ⊢
      rw [Array.getElem?_append_left (by simp; omega)]
      rw [List.getElem?_toArray] at h3 ⊢
      rw [List.getElem?_append_left h5]
      exact h3
    · rw [List.getElem?_append_right (by omega)] at hi
      have h3 := h2.cell (i - xs.length) x j y hi hj
      have hjs : j < sz := by
        have := (List.getElem?_eq_some_iff.1 hj).1
        rw [(h2.elem x (List.mem_of_getElem? hi)).1] at this; exact this
      have hii := (List.getElem?_eq_some_iff.1 hi).1
      have h4 : (i - xs.length + 1) * sz ≤ ys.length * sz := Nat.mul_le_mul_right _ hii
      rw [Nat.add_mul] at h4
      have h6 : i * sz = xs.length * sz + (i - xs.length) * sz := by rw [← Nat.add_mul]; congr 1; omega
      rw [Array.getD_eq_getD_getElem?] at h3 ⊢
      rw [Array.getElem?_append_left (by simp [l1, l2]; omega)]
      rw [List.getElem?_toArray] at h3 ⊢
      rw [List.getElem?_append_right (by omega)]
      rw [show 0 + i * sz + j - olds.length = 0 + (i - xs.length) * sz + j by omega]
      exact h3

theorem inMem_nil (c : Array Value) (sz : Nat) : InMem pl M c 0 sz [] := ⟨by simp, fun x hx => by (cases hx), fun i x j y hi => by simp at hi⟩

/-- Where an append grows. -/
theorem grow_ok (hr : Rep pl M h w) {t tx e : TypeId} {ty : TypeId} {i : TypeInfo} {z : Value} (ht : P.underlying t = some (.slice e)) (hi : P.info? e = some i) (hz : i.zero = some z) (hzs : z.cells.size = i.size) (hs0 : 0 < i.size)
    {base : Option Addr} {sLen sCap : Nat} {xs ys : List AV} {olds news : List Value} {cx : Value} (hol : olds.length = xs.length * i.size) (hoi : InMem pl M olds.toArray 0 i.size xs) (hxl : xs.length = sLen)
    (hold : (Builtin.firstCells i.size sLen (.slice base sLen sCap)).run P w.drew = .ok olds.toArray w.drew) (hs : SrcRel P pl M w cx ys i.size news)
    (hk : (∃ e', P.underlying tx = some (.slice e')) ∨ P.underlying tx = some .string) (hg : sCap < sLen + ys.length) (hsm : small (sLen + ys.length) i.bytes = true) :
    ∃ cap w2 pl', (Builtin.append_ #[t, tx] ty #[.slice base sLen sCap, cx]).run P w = .ok (.slice (some ⟨w.heap.size, 0, none⟩) (sLen + ys.length) cap) w2 ∧ w2.heap.size = w.heap.size + 1 ∧
      VRel pl' M (.slice h.n 0 0 (xs ++ ys).length none) (.slice (some ⟨w.heap.size, 0, none⟩) (sLen + ys.length) cap) ∧ Rep pl' M (h.push (.row i.size true 0 (xs ++ ys))) w2 ∧ Step h pl M w (h.push (.row i.size true 0 (xs ++ ys))) pl' M w2 ∧
      ∃ cells, w2.heap = w.heap.push (.cells cells e) ∧ cells.size = cap * i.size ∧ (xs ++ ys).length ≤ cap ∧ InMem pl M cells 0 i.size (xs ++ ys) ∧ WSame w w2 := by
  obtain ⟨b1, b2⟩ := small_some hsm
  have hrun := run_append_grow_src (P := P) w t tx ty e i z ht hi hz base sLen sCap olds hold cx ys.length news (hs.src hk) hg (by omega) (growslice_fits hg (by omega))
  have hge := grownCap_ge w (sLen + ys.length) sCap e
  have hin := inMem_append hoi hs.mem hol hs.newsLen (Builtin.zeroCells z.cells (grownCap w (sLen + ys.length) sCap e - (sLen + ys.length)))
  have hlen : (xs ++ ys).length = sLen + ys.length := by simp [hxl]
  have hcs : ((olds ++ news).toArray ++ Builtin.zeroCells z.cells (grownCap w (sLen + ys.length) sCap e - (sLen + ys.length))).size = grownCap w (sLen + ys.length) sCap e * i.size := by
    simp only [Array.size_append, List.size_toArray, List.length_append, hol, hs.newsLen, size_zeroCells, hzs, ← Nat.add_mul]
    congr 1
    omega
  have hwd : (w.drew.alloc (.cells ((olds ++ news).toArray ++ Builtin.zeroCells z.cells (grownCap w (sLen + ys.length) sCap e - (sLen + ys.length))) e)).heap = w.heap.push (.cells ((olds ++ news).toArray ++ Builtin.zeroCells z.cells (grownCap w (sLen + ys.length) sCap e - (sLen + ys.length))) e) := rfl
  obtain ⟨pl', k1, k2, k3⟩ := newRow_ok (zs := []) (z := z) hr hs0 hwd ⟨rfl, rfl, rfl, Nat.le_succ _⟩ hcs (by rw [hlen]; exact hge) hin
  refine ⟨_, _, pl', hrun, by rw [hwd, Array.size_push], ?_, k2, k3, _, hwd, hcs, by rw [hlen]; exact hge, hin, ⟨rfl, rfl, rfl, Nat.le_succ _⟩⟩
  rw [hlen] at k1 ⊢
  exact k1

/-- Where there is room within the row. -/
theorem room_ok (hr : Rep pl M h w) {t tx e : TypeId} {ty : TypeId} {i : TypeInfo} (ht : P.underlying t = some (.slice e)) (hi : P.info? e = some i)
    {id off len cap' : Nat} {cap : Option Nat} {op : Bool} {ep : Nat} {xs ys : List AV} {p : Place} {c : Array Value} {t' : TypeId} {ad : Addr} {news : List Value} {cx : Value}
    (hg : h.get id = some (.row i.size op ep xs)) (q1 : pl id = some p) (q3 : w.heap[p.blk]? = some (.cells c t' (0, 0))) (q4 : p.ep = ep) (q5 : p.sz = i.size) (q6 : p.n = xs.length) (q7 : p.tot = c.size) (q8 : 0 < i.size)
    (q9 : op = false → c.size = xs.length * i.size) (q10 : InMem pl M c 0 i.size xs) (q11 : len ≤ cap') (q12 : ∀ k, cap = some k → cap' = k) (q13 : cap' = 0 ∨ ad = ⟨p.blk, off * i.size, none⟩) (q14 : (off + cap') * i.size ≤ c.size)
    (q16 : cap = none → xs.length ≤ off + cap') (q17 : ∀ k, cap = some k → off + k ≤ xs.length) (hs : SrcRel P pl M w cx ys i.size news) (hk : (∃ e', P.underlying tx = some (.slice e')) ∨ P.underlying tx = some .string)
    (hne : ys ≠ []) (hroom : len + ys.length ≤ cap') (hin : off + len + ys.length ≤ xs.length) :
    ∃ w2, (Builtin.append_ #[t, tx] ty #[.slice (some ad) len cap', cx]).run P w = .ok (.slice (some ad) (len + ys.length) cap') w2 ∧
      VRel pl M (.slice id ep off (len + ys.length) cap) (.slice (some ad) (len + ys.length) cap') ∧ Rep pl M (h.put id (.row i.size op ep (writeAt xs (off + len) ys))) w2 ∧ Step h pl M w (h.put id (.row i.size op ep (writeAt xs (off + len) ys))) pl M w2 := by
  have hpos : 0 < ys.length := List.length_pos_iff.2 hne
  have had : ad = ⟨p.blk, off * i.size, none⟩ := by
    rcases q13 with h0 | h0
    · omega
    · exact h0
  have hfit0 : (off + len + ys.length) * i.size ≤ c.size := by
    have := q10.fit
    have h9 : (off + len + ys.length) * i.size ≤ xs.length * i.size := Nat.mul_le_mul_right _ hin
    omega
  obtain ⟨hl, hmem⟩ := q10.over hs.mem hs.newsLen (k := off + len) (ys := writeAt xs (off + len) ys) hfit0 (by rw [writeAt_length hin]; have := q10.fit; omega) (fun i x hi => writeAt_get hin hi)
  have hoff : off * i.size + len * i.size = (off + len) * i.size := (Nat.add_mul _ _ _).symm
  have hrun := run_append_room_src (P := P) w t tx ty e i ht hi p.blk (off * i.size) len cap' cx ys.length news (hs.src hk) hroom (fun j hj => by rw [hoff, cell_of q3 (by omega)]; rfl) (fun j hj => by simp [World.frozen?, q3])
  rw [hoff, ← had] at hrun
  obtain ⟨r1, r2⟩ := Rep.store (ys := writeAt xs (off + len) ys) hr q1 hg q3 q4 q5 q6 q7 q8 q9 (writeAt_length hin) hl hmem
  exact ⟨_, hrun, .slice q1 (by omega) hroom q12 (fun _ => ⟨by rw [q5]; exact q13, by rw [q5, q7]; exact q14, by rw [q6]; omega, (by rw [q6]; exact q16), (by rw [q6]; exact q17)⟩), r1, r2⟩
theorem take_append_get {xs ys : List AV} {k : Nat} (hk : k ≤ xs.length) {i : Nat} {x : AV} (hi : (xs.take k ++ ys)[i]? = some x) :
    (i < k ∧ xs[i]? = some x) ∨ (k ≤ i ∧ i < k + ys.length ∧ ys[i - k]? = some x) ∨ (k + ys.length ≤ i ∧ xs[i]? = some x) := by
  have h1 : (xs.take k).length = k := by simp; omega
  by_cases hlt : i < k
  · rw [List.getElem?_append_left (by omega), List.getElem?_take_of_lt hlt] at hi
    exact .inl ⟨hlt, hi⟩
  · rw [List.getElem?_append_right (by omega), h1] at hi
    have := (List.getElem?_eq_some_iff.1 hi).1
    exact .inr (.inl ⟨by omega, by omega, hi⟩)

/-- At the tip of a row that may grow: in place or in a new block, the row's next epoch. -/
theorem tip_ok (hr : Rep pl M h w) {t tx e : TypeId} {ty : TypeId} {i : TypeInfo} {z : Value} (ht : P.underlying t = some (.slice e)) (hi : P.info? e = some i) (hz : i.zero = some z) (hzs : z.cells.size = i.size)
    {id len cap' : Nat} {ep : Nat} {xs ys : List AV} {p : Place} {c : Array Value} {t' : TypeId} {ad : Addr} {news : List Value} {cx : Value}
    (hg : h.get id = some (.row i.size true ep xs)) (q1 : pl id = some p) (q3 : w.heap[p.blk]? = some (.cells c t' (0, 0))) (q4 : p.ep = ep) (q5 : p.sz = i.size) (q6 : p.n = xs.length) (q7 : p.tot = c.size) (q8 : 0 < i.size)
    (q10 : InMem pl M c 0 i.size xs) (q11 : len ≤ cap') (q13 : cap' = 0 ∨ ad = ⟨p.blk, 0, none⟩) (q14 : cap' * i.size ≤ c.size) (q15 : len ≤ xs.length)
    (hs : SrcRel P pl M w cx ys i.size news) (hk : (∃ e', P.underlying tx = some (.slice e')) ∨ P.underlying tx = some .string)
    (hne : ys ≠ []) (hsm : small (len + ys.length) i.bytes = true) :
    ∃ cv w2 pl', (Builtin.append_ #[t, tx] ty #[.slice (some ad) len cap', cx]).run P w = .ok cv w2 ∧
      VRel pl' M (.slice id (ep + 1) 0 (len + ys.length) none) cv ∧ Rep pl' M (h.put id (.row i.size true (ep + 1) (xs.take len ++ ys))) w2 ∧ Step h pl M w (h.put id (.row i.size true (ep + 1) (xs.take len ++ ys))) pl' M w2 := by
  have hpos : 0 < ys.length := List.length_pos_iff.2 hne
  have hlen : (xs.take len ++ ys).length = len + ys.length := by simp; omega
  by_cases hroom : len + ys.length ≤ cap'
  · have had : ad = ⟨p.blk, 0, none⟩ := by
      rcases q13 with h0 | h0
      · omega
      · exact h0
    have hfit0 : (len + ys.length) * i.size ≤ c.size := Nat.le_trans (Nat.mul_le_mul_right _ hroom) q14
    obtain ⟨hl, hmem⟩ := q10.over hs.mem hs.newsLen (k := len) (ys := xs.take len ++ ys) hfit0 (by rw [hlen]; exact hfit0) (fun i x hi => take_append_get q15 hi)
    have hrun := run_append_room_src (P := P) w t tx ty e i ht hi p.blk 0 len cap' cx ys.length news (hs.src hk) hroom (fun j hj => by rw [Nat.zero_add, cell_of q3 (by omega)]; rfl) (fun j hj => by simp [World.frozen?, q3])
    rw [Nat.zero_add, ← had] at hrun
    let p' : Place := ⟨p.blk, ep + 1, i.size, len + ys.length, c.size⟩
    have hext : Ext pl (upd pl id p') := by
      intro k q hq
      by_cases ek : k = id
      · subst ek
        rw [q1] at hq
        have : p = q := by simpa using hq
        subst this
        exact ⟨p', upd_same _ _ _, by simp [p']; omega, fun e2 => by simp [p'] at e2; omega⟩
      · exact ⟨q, by rw [upd_other ek]; exact hq, Nat.le_refl _, fun _ => rfl⟩
    obtain ⟨r1, r2⟩ := Rep.change (p' := p') (o' := .row i.size true (ep + 1) (xs.take len ++ ys)) (w' := w.setCells p.blk (len * i.size) news) hr q1 hg (.inr (by simp [p']; omega)) (setCells_same _ _ _ _)
      (by rw [setCells_size]; exact Nat.le_refl _) (fun b _ hb => setCells_other _ _ hb _ _ _) (.inl rfl) (by rw [setCells_size]; exact hr.blk id p q1) (by
        show ObjRel (upd pl id p') M p' _ (w.setCells p.blk (len * i.size) news).heap[p.blk]?
        rw [setCells_heap p.blk t' (0, 0) news (len * i.size) w c q3 hl]
        exact ⟨rfl, rfl, hlen.symm, by simp [p', over_size hl], rfl, q8, fun hh => by (cases hh), hmem.mono hext (fun _ _ h => h)⟩)
    refine ⟨_, _, _, hrun, .slice (upd_same _ _ _) (Nat.le_refl _) hroom (fun k hk => by cases hk) (fun _ => ⟨?_, by simpa [p'] using q14, by simp [p'], (fun _ => by simpa [p'] using hroom), (fun k hk => by cases hk)⟩), r1, r2⟩
    right
    rw [had]
    simp [p']
  · have hol : (cut c 0 (len * i.size)).length = (xs.take len).length * i.size := by rw [cut_length]; simp [q15]
    have hfit1 : len * i.size ≤ c.size := by
      have := q10.fit
      have h9 : len * i.size ≤ xs.length * i.size := Nat.mul_le_mul_right _ q15
      omega
    have hoi : InMem pl M (cut c 0 (len * i.size)).toArray 0 i.size (xs.take len) := by
      refine ⟨by simp [cut_length]; exact Nat.mul_le_mul_right _ (by omega), fun x hx => q10.elem x (List.mem_of_mem_take hx), fun k x j y hk hj => ?_⟩
      have hkl := (List.getElem?_eq_some_iff.1 hk).1
      have hkl2 : k < len := by simp at hkl; omega
      rw [List.getElem?_take_of_lt hkl2] at hk
      have hjj := (List.getElem?_eq_some_iff.1 hj).1
      rw [(q10.elem x (List.mem_of_getElem? hk)).1] at hjj
      have h5 : (k + 1) * i.size ≤ len * i.size := Nat.mul_le_mul_right _ hkl2
      rw [Nat.add_mul] at h5
      have h6 := q10.cell k x j y hk hj
      rw [Array.getD_eq_getD_getElem?, List.getElem?_toArray, cut_get (by omega), Option.getD_some]
      rw [Nat.zero_add]
      exact h6
    have hold : (Builtin.firstCells i.size len (.slice (some ad) len cap')).run P w.drew = .ok (cut c 0 (len * i.size)).toArray w.drew := by
      by_cases h0 : len = 0
      · subst h0
        simp [Builtin.firstCells, loadCells, loadCellsFrom, cut]
      · have had : ad = ⟨p.blk, 0, none⟩ := by
          rcases q13 with h9 | h9
          · omega
          · exact h9
        refine run_firstCells_some w.drew i.size len ad len cap' _ (cut_length _ _ _) (fun j u hj => ?_)
        have hlt := (List.getElem?_eq_some_iff.1 hj).1
        rw [cut_length] at hlt
        rw [cut_get hlt] at hj
        rw [had, Addr.add_lit, ← hj]
        exact cell_of (w := w.drew) q3 (by omega)
    obtain ⟨cap, w2, pl2, k1, k2, k3, k4, k5, cells, k6, k7, k8, k9, k10⟩ := grow_ok (P := P) (tx := tx) (ty := ty) hr ht hi hz hzs q8 hol hoi (by simp [q15]) hold hs hk (by omega) hsm
    let p' : Place := ⟨w.heap.size, ep + 1, i.size, len + ys.length, cells.size⟩
    have hext : Ext pl (upd pl id p') := by
      intro k q hq
      by_cases ek : k = id
      · subst ek
        rw [q1] at hq
        have : p = q := by simpa using hq
        subst this
        exact ⟨p', upd_same _ _ _, by simp [p']; omega, fun e2 => by simp [p'] at e2; omega⟩
      · exact ⟨q, by rw [upd_other ek]; exact hq, Nat.le_refl _, fun _ => rfl⟩
    obtain ⟨r1, r2⟩ := Rep.change (p' := p') (o' := .row i.size true (ep + 1) (xs.take len ++ ys)) (w' := w2) hr q1 hg (.inr (by simp [p']; omega)) k10
      (by omega) (fun b hb _ => by rw [k6, push_old hb]) (.inr (Nat.le_refl _)) (by rw [k2]; simp [p']) (by
        show ObjRel (upd pl id p') M p' _ w2.heap[w.heap.size]?
        rw [k6, push_new]
        exact ⟨rfl, rfl, hlen.symm, rfl, rfl, q8, fun hh => by (cases hh), k9.mono hext (fun _ _ h => h)⟩)
    refine ⟨_, _, _, k1, .slice (upd_same _ _ _) (Nat.le_refl _) (by rw [hlen] at k8; exact k8) (fun k hk => by cases hk) (fun _ => ⟨.inr (by simp [p']), by simp [p', k7], by simp [p'], (fun _ => by simp [p']; rw [hlen] at k8; exact k8), (fun k hk => by cases hk)⟩), r1, r2⟩

theorem append_none {t tx e : TypeId} {ty : TypeId} {i : TypeInfo} (ht : P.underlying t = some (.slice e)) (hi : P.info? e = some i) {x : AV} {cx : Value} (hr : Rep pl M h w) (hx : VRel pl M x cx) (he : srcR h x = some [])
    (hk : (∃ e', P.underlying tx = some (.slice e')) ∨ P.underlying tx = some .string) {base : Option Addr} {len cap : Nat} (hl : len ≤ cap) :
    (Builtin.append_ #[t, tx] ty #[.slice base len cap, cx]).run P w = .ok (.slice base len cap) w := by
  have h1 : (∀ w', (Builtin.lenOf cx).run P w' = .ok 0 w') ∧ (∀ w', (Builtin.firstCells i.size 0 cx).run P w' = .ok #[] w') := by
    unfold srcR at he
    split at he
    · rename_i s
      simp at he
      subst he
      cases hx
      exact ⟨fun w' => rfl, fun w' => by simp [Builtin.firstCells]⟩
    · rcases elems_src hr hx he with ⟨h1, _⟩ | ⟨ad, cap', news, sz, h1, _⟩
      · subst h1; exact ⟨fun w' => rfl, fun w' => by simp [Builtin.firstCells]⟩
      · subst h1; exact ⟨fun w' => rfl, fun w' => by simp [Builtin.firstCells, loadCells, loadCellsFrom]⟩
  obtain ⟨h2, h3⟩ := h1
  rcases hk with ⟨e', hk⟩ | hk <;> cases base <;> simp [Builtin.append_, run_underlying ht, run_underlying hk, sizeOf, typeInfo, hi, h2, h3, hl, storeCells]

theorem appendV_ok (hr : Rep pl M h w) {t tx e : TypeId} {ty : TypeId} {i : TypeInfo} {z : Value} (ht : P.underlying t = some (.slice e)) (hi : P.info? e = some i) (hz : i.zero = some z) (hzs : z.cells.size = i.size) (hs0 : 0 < i.size)
    (hk : (∃ e', P.underlying tx = some (.slice e')) ∨ P.underlying tx = some .string) {s x : AV} {cs cx : Value} (hs : VRel pl M s cs) (hx : VRel pl M x cx) {r : AV × AHeap} (he : appendV i.size i.bytes h s x = some r) :
    ∃ cv w2 pl', (Builtin.append_ #[t, tx] ty #[cs, cx]).run P w = .ok cv w2 ∧ VRel pl' M r.1 cv ∧ Rep pl' M r.2 w2 ∧ Step h pl M w r.2 pl' M w2 ∧ h.n ≤ r.2.n := by
  unfold appendV at he
  cases hsrc : srcR h x with
  | none => simp [hsrc] at he
  | some ys =>
    rw [hsrc] at he
    simp only [] at he
    unfold appendR at he
    split at he
    · split at he <;> simp at he <;> subst he
      · cases hs
        exact ⟨_, _, pl, append_none ht hi hr hx hsrc hk (Nat.le_refl _), .nils, hr, Step.refl _ _ _ _, Nat.le_refl _⟩
      · have hs' := hs
        cases hs with
        | ps hl => exact ⟨_, _, pl, append_none ht hi hr hx hsrc hk hl, hs', hr, Step.refl _ _ _ _, Nat.le_refl _⟩
      · have hs' := hs
        cases hs with
        | lsn => exact ⟨_, _, pl, append_none ht hi hr hx hsrc hk (Nat.le_refl _), hs', hr, Step.refl _ _ _ _, Nat.le_refl _⟩
        | lsp h1 _ => cases h1 with
          | ps hl => exact ⟨_, _, pl, append_none ht hi hr hx hsrc hk hl, hs', hr, Step.refl _ _ _ _, Nat.le_refl _⟩
      · have hs' := hs
        cases hs with
        | slice hp hle hl => exact ⟨_, _, pl, append_none ht hi hr hx hsrc hk hl, hs', hr, Step.refl _ _ _ _, Nat.le_refl _⟩
    · rename_i y0 yr
      have hne : y0 :: yr ≠ [] := by simp
      split at he
      · simp at he
      · rename_i hfit
        obtain ⟨news, hsr⟩ := src_ok (P := P) hr hx hsrc hne hfit
        have hpos : 0 < (y0 :: yr).length := by simp
        generalize hys : y0 :: yr = ys at *
        split at he
        · -- nil
          cases hs
          split at he
          · rename_i hsm
            have := newRowR_some he
            subst this
            obtain ⟨cap, w2, pl2, k1, k2, k3, k4, k5, _⟩ := grow_ok (P := P) (t := t) (tx := tx) (ty := ty) (base := none) (sLen := 0) (sCap := 0) (xs := []) (olds := []) hr ht hi hz hzs hs0 (by simp) (inMem_nil _ _) rfl (by simp [Builtin.firstCells]) hsr hk (by omega) (by simpa using hsm)
            simp only [Nat.zero_add, List.nil_append] at k1 k3 k4
            exact ⟨_, _, _, k1, k3, k4, k5, by show h.n ≤ h.n + 1; omega⟩
          · simp at he
        · -- a plain slice that is full
          rename_i xs
          split at he
          · rename_i hsm
            simp at hsm
            have := newRowR_some he
            subst this
            have hxf := fits_ok hsm.2
            rcases elems_src (xs := xs) hr hs rfl with ⟨h1, _⟩ | ⟨ad, cap', olds, sz, h1, h2, h3, h4, h5⟩
            · subst h1; cases hs
            · subst h1
              cases hs with
              | ps hl htt hm hs2 hc =>
                have hcap := htt rfl
                subst hcap
                have hsz : xs = [] ∨ sz = i.size := by
                  cases xs with
                  | nil => exact .inl rfl
                  | cons y r => right; rw [← (h5.elem y (by simp)).1]; exact (hxf y (by simp)).1
                have hol : olds.length = xs.length * i.size := by
                  rcases hsz with h9 | h9
                  · subst h9; simpa using h2
                  · rw [← h9]; exact h2
                have hoi : InMem pl M olds.toArray 0 i.size xs := by
                  rcases hsz with h9 | h9
                  · subst h9; exact inMem_nil _ _
                  · rw [← h9]; exact h5
                have hold : (Builtin.firstCells i.size xs.length (.slice (some ad) xs.length xs.length)).run P w.drew = .ok olds.toArray w.drew :=
                  run_firstCells_some w.drew i.size xs.length ad _ _ olds hol (fun j u hj => by rw [World.cell?_drew]; exact h3 j u hj)
                obtain ⟨cap, w2, pl2, k1, k2, k3, k4, k5, _⟩ := grow_ok (P := P) (tx := tx) (ty := ty) hr ht hi hz hzs hs0 hol hoi rfl hold hsr hk (by omega) hsm.1
                refine ⟨_, _, _, k1, ?_, k4, k5, by show h.n ≤ h.n + 1; omega⟩
                exact k3
          · simp at he
        · -- a row's slice
          rename_i id ep off len cap
          split at he
          · rename_i sz' op ep' xs hg
            rw [beq_iff, beq_iff] at he
            split at he
            · simp at he
            · rename_i hc
              simp at hc
              obtain ⟨⟨c1, c2⟩, c3⟩ := hc
              subst c1
              subst c2
              obtain ⟨p, c, t', ad, cap', q1, rfl, q3, q4, q5, q6, q7, q8, q9, q10, q11, q12, q13, q14, q15, q16, q17⟩ := slice_at hr hs hg
              split at he
              · rename_i k
                have hcap := q12 k rfl
                subst hcap
                rw [ble_iff] at he
                split at he
                · rename_i hroom
                  simp at hroom
                  rw [ble_iff] at he
                  split at he
                  · rename_i hin
                    simp at hin
                    simp at he
                    subst he
                    obtain ⟨w2, k1, k2, k3, k4⟩ := room_ok (P := P) (tx := tx) (ty := ty) hr ht hi hg q1 q3 q4 q5 q6 q7 q8 q9 q10 q11 q12 q13 q14 q16 q17 hsr hk (by rw [← hys]; simp) hroom hin
                    exact ⟨_, _, _, k1, k2, k3, k4, Nat.le_refl _⟩
                  · simp at he
                · rename_i hroom
                  simp at hroom
                  have := newRowR_some he
                  subst this
                  rcases elems_src (xs := (xs.drop off).take len) hr hs (by simp [elemsR, hg, beq_iff]) with ⟨h1, _⟩ | ⟨ad2, cap2, olds, sz, h1, h2, h3, h4, h5⟩
                  · simp at h1
                  · have hlen2 : ((xs.drop off).take len).length = len := by simp; omega
                    simp at h1
                    obtain ⟨rfl, _, rfl⟩ := h1
                    have hsz : (xs.drop off).take len = [] ∨ sz = i.size := by
                      cases hxs : (xs.drop off).take len with
                      | nil => exact .inl rfl
                      | cons y r =>
                        right
                        have hmem : y ∈ (xs.drop off).take len := by rw [hxs]; simp
                        rw [← (h5.elem y hmem).1]
                        exact (q10.elem y (List.mem_of_mem_drop (List.mem_of_mem_take hmem))).1
                    have hol : olds.length = ((xs.drop off).take len).length * i.size := by
                      rcases hsz with h9 | h9
                      · rw [h9] at h2 ⊢; simpa using h2
                      · rw [← h9]; exact h2
                    have hoi : InMem pl M olds.toArray 0 i.size ((xs.drop off).take len) := by
                      rcases hsz with h9 | h9
                      · rw [h9]; exact inMem_nil _ _
                      · rw [← h9]; exact h5
                    have hold : (Builtin.firstCells i.size len (.slice (some ad) len cap')).run P w.drew = .ok olds.toArray w.drew :=
                      run_firstCells_some w.drew i.size len ad _ _ olds (by rw [hol, hlen2]) (fun j u hj => by rw [World.cell?_drew]; exact h3 j u hj)
                    obtain ⟨cap, w2, pl2, k1, k2, k3, k4, k5, _⟩ := grow_ok (P := P) (tx := tx) (ty := ty) hr ht hi hz hzs hs0 hol hoi hlen2 hold hsr hk (by omega) c3
                    refine ⟨_, _, _, k1, ?_, k4, k5, by show h.n ≤ h.n + 1; omega⟩
                    exact k3
              · rw [ble_iff] at he
                split at he
                · rename_i hin
                  simp at hin
                  simp at he
                  subst he
                  have := q16 rfl
                  obtain ⟨w2, k1, k2, k3, k4⟩ := room_ok (P := P) (tx := tx) (ty := ty) hr ht hi hg q1 q3 q4 q5 q6 q7 q8 q9 q10 q11 q12 q13 q14 q16 q17 hsr hk (by rw [← hys]; simp) (by omega) hin
                  exact ⟨_, _, _, k1, k2, k3, k4, Nat.le_refl _⟩
                · split at he
                  · simp at he
                    subst he
                    obtain ⟨cv, w2, pl2, k1, k2, k3, k4⟩ := tip_ok (P := P) (tx := tx) (ty := ty) hr ht hi hz hzs hg q1 q3 q4 q5 q6 q7 q8 q10 q11 (by simpa using q13) (by simpa using q14) (by omega) hsr hk (by rw [← hys]; simp) c3
                    exact ⟨_, _, _, k1, k2, k3, k4, Nat.le_refl _⟩
                  · simp at he
          · simp at he
        · simp at he
end
end Go.Ev

/- copy, clear, len, cap, min, max; maps; ranging over a text. -/
namespace Go.Ev
open Go

section
variable {P : Program} {G : Env} {pl : Pl} {M : Mem} {h h' : AHeap} {w w' : World} {v : AV} {A : Fr} {a : Act}

/-- Elements written into a row: the whole of it. -/
theorem write_ok (hr : Rep pl M h w) {id off sz : Nat} {op : Bool} {ep : Nat} {xs ys : List AV} {p : Place} {c : Array Value} {t' : TypeId} {news : List Value}
    (hg : h.get id = some (.row sz op ep xs)) (q1 : pl id = some p) (q3 : w.heap[p.blk]? = some (.cells c t' (0, 0))) (q4 : p.ep = ep) (q5 : p.sz = sz) (q6 : p.n = xs.length) (q7 : p.tot = c.size) (q8 : 0 < sz)
    (q9 : op = false → c.size = xs.length * sz) (q10 : InMem pl M c 0 sz xs) (hn : InMem pl M news.toArray 0 sz ys) (hnl : news.length = ys.length * sz) (h1 : ∀ u ∈ news, u.oneCell' = true) (hin : off + ys.length ≤ xs.length) :
    (storeCells ⟨p.blk, off * sz, none⟩ news).run P w = .ok () (w.setCells p.blk (off * sz) news) ∧
      Rep pl M (h.put id (.row sz op ep (writeAt xs off ys))) (w.setCells p.blk (off * sz) news) ∧ Step h pl M w (h.put id (.row sz op ep (writeAt xs off ys))) pl M (w.setCells p.blk (off * sz) news) := by
  have hfit0 : (off + ys.length) * sz ≤ c.size := by
    have := q10.fit
    have h9 : (off + ys.length) * sz ≤ xs.length * sz := Nat.mul_le_mul_right _ hin
    omega
  obtain ⟨hl, hmem⟩ := q10.over hn hnl (k := off) (ys := writeAt xs off ys) hfit0 (by rw [writeAt_length hin]; have := q10.fit; omega) (fun i x hi => writeAt_get hin hi)
  exact ⟨run_store_cells q3 hl h1, Rep.store (ys := writeAt xs off ys) hr q1 hg q3 q4 q5 q6 q7 q8 q9 (writeAt_length hin) hl hmem⟩

theorem fits_bytes (l : List UInt8) : fits 1 (l.map fun b => AV.int .u8 (Int.ofNat b.toNat)) = true := by
  induction l with
  | nil => rfl
  | cons b r ih => simp only [List.map_cons, fits, AV.cells, flatB]; exact ih

theorem copyO_ok (hr : Rep pl M h w) {t e ty : TypeId} {s : Nat} (ht : P.underlying t = some (.slice e)) (hsz : szOf P e = some s) {d x : AV} {cd cx : Value} (hd : VRel pl M d cd) (hx : VRel pl M x cx) {r : AV × AHeap}
    (he : copyO s h (some d) (some x) = some r) {ts : Array TypeId} (hts : ts[0]? = some t) :
    ∃ cv w2, (Builtin.copy_ ts ty #[cd, cx]).run P w = .ok cv w2 ∧ VRel pl M r.1 cv ∧ Rep pl M r.2 w2 ∧ Step h pl M w r.2 pl M w2 ∧ h.n ≤ r.2.n := by
  simp only [copyO] at he
  cases hsrc : srcR h x with
  | none => simp [hsrc] at he
  | some ys =>
    rw [hsrc] at he
    simp only [copyR] at he
    split at he
    · rename_i id ep off len cap
      split at he
      · rename_i sz' op ep' xs hg
        rw [beq_iff, beq_iff] at he
        split at he
        · rename_i hc
          simp at hc he
          obtain ⟨⟨c1, c2⟩, c3⟩ := hc
          subst c1; subst c2; subst he
          obtain ⟨p, c, t', ad, cap', q1, rfl, q3, q4, q5, q6, q7, q8, q9, q10, q11, q12, q13, q14, q15, q16, q17⟩ := slice_at hr hd hg
          by_cases hne : ys.take len = []
          · have hmin : min ys.length len = 0 := by
              have h9 : (ys.take len).length = 0 := by rw [hne]; rfl
              rw [List.length_take] at h9
              omega
            have hw : writeAt xs off (ys.take len) = xs := by rw [hne]; simp [writeAt]
            have hl0 : (∀ w', (Builtin.lenOf cx).run P w' = .ok ys.length w') ∧ (∀ w', (Builtin.firstCells s 0 cx).run P w' = .ok #[] w') := by
              unfold srcR at hsrc
              split at hsrc
              · rename_i l
                simp at hsrc
                subst hsrc
                cases hx
                exact ⟨fun w' => by simp [Builtin.lenOf]; rfl, fun w' => by simp [Builtin.firstCells]⟩
              · rcases elems_src hr hx hsrc with ⟨h1, h2⟩ | ⟨ad2, cap2, news, sz, h1, _⟩
                · subst h1; subst h2; exact ⟨fun w' => rfl, fun w' => by simp [Builtin.firstCells]⟩
                · subst h1; exact ⟨fun w' => rfl, fun w' => by simp [Builtin.firstCells, loadCells, loadCellsFrom]⟩
            refine ⟨.int .i64 (0 : Int), w, ?_, ?_, ?_, ?_, Nat.le_refl _⟩
            · have hm0 : Nat.min ys.length len = 0 := hmin
              simp [Builtin.copy_, hts, run_underlying ht, hl0.1, hm0, run_sizeOf hsz, hl0.2, storeCells, goInt]
            · have : (Int.ofNat (min ys.length len)) = 0 := by rw [hmin]; rfl
              show VRel pl M (.int .i64 (Int.ofNat (min ys.length len))) _
              rw [this]; exact .int _ _
            · show Rep pl M (h.put id _) w
              rw [hw]
              exact (hr.samePut q1 hg).1
            · show Step h pl M w (h.put id _) pl M w
              rw [hw]
              exact (hr.samePut q1 hg).2
          · have hys : ys ≠ [] := by intro e; subst e; simp at hne
            have hlen0 : len ≠ 0 := by intro e; subst e; simp at hne
            have hfits : ∃ news, SrcRel P pl M w cx ys s news := by
              -- the first elements tell the size of all
              unfold srcR at hsrc
              cases ys with
              | nil => exact absurd rfl hys
              | cons y0 yr =>
                have hy0 : y0.cells.length = s := by
                  cases len with
                  | zero => exact absurd rfl hlen0
                  | succ n => exact (fits_ok c3 y0 (by simp)).1
                split at hsrc
                · rename_i l
                  refine src_ok (h := h) hr hx (by simp [srcR]; simpa using hsrc) (by simp) ?_
                  simp at hsrc
                  have hs1 : s = 1 := by
                    rw [← hy0]
                    cases l with
                    | nil => simp at hsrc
                    | cons b r => simp at hsrc; rw [← hsrc.1]; rfl
                  rw [← hsrc, hs1]
                  exact fits_bytes l
                · refine src_ok (h := h) hr hx (by unfold srcR; split <;> simp_all) (by simp) ?_
                  rcases elems_src hr hx hsrc with ⟨_, h2⟩ | ⟨ad2, cap2, news, sz, h1, h2, h3, h4, h5⟩
                  · simp at h2
                  · have hs2 : sz = s := by rw [← hy0]; exact ((h5.elem y0 (by simp)).1).symm
                    subst hs2
                    have : ∀ l : List AV, (∀ x, x ∈ l → x.cells.length = sz ∧ Sc x) → fits sz l = true := by
                      intro l
                      induction l with
                      | nil => intro _; rfl
                      | cons b r ih =>
                        intro hl
                        have hb := hl b (by simp)
                        have hfb : flatB b = true := by
                          cases b <;> first | rfl | (have := hb.2 _ (by simp [AV.cells]; rfl); simp [scalB] at this)
                        simp [fits, beq_iff, hb.1, hfb, ih (fun x hx => hl x (by simp [hx]))]
                    exact this _ h5.elem
            obtain ⟨news, hsr⟩ := hfits
            have had : ad = ⟨p.blk, off * s, none⟩ := by
              rcases q13 with h0 | h0
              · omega
              · exact h0
            have hn : Nat.min ys.length len = (ys.take len).length := by rw [List.length_take]; exact Nat.min_comm _ _
            have hle : (ys.take len).length ≤ ys.length := by rw [List.length_take]; exact Nat.min_le_right _ _
            have hcells := hsr.cells (ys.take len).length hle w rfl
            have hnl : (news.take ((ys.take len).length * s)).length = (ys.take len).length * s := by
              rw [List.length_take, hsr.newsLen]
              exact Nat.min_eq_left (Nat.mul_le_mul_right _ hle)
            have hin2 : InMem pl M (news.take ((ys.take len).length * s)).toArray 0 s (ys.take len) := by
              refine ⟨by simp only [List.size_toArray]; rw [hnl]; omega, fun x hx => hsr.mem.elem x (List.mem_of_mem_take hx), fun i x j y hi hj => ?_⟩
              have hil := (List.getElem?_eq_some_iff.1 hi).1
              have hil2 : i < len := by simp at hil; omega
              rw [List.getElem?_take_of_lt hil2] at hi
              have hjj := (List.getElem?_eq_some_iff.1 hj).1
              rw [(hsr.mem.elem x (List.mem_of_getElem? hi)).1] at hjj
              have h5 : (i + 1) * s ≤ (ys.take len).length * s := Nat.mul_le_mul_right _ hil
              rw [Nat.add_mul] at h5
              have h6 := hsr.mem.cell i x j y hi hj
              rw [Array.getD_eq_getD_getElem?, List.getElem?_toArray] at h6 ⊢
              rw [List.getElem?_take_of_lt (by omega)]
              exact h6
            obtain ⟨k1, k2, k3⟩ := write_ok (P := P) (off := off) hr hg q1 q3 q4 q5 q6 q7 q8 q9 q10 hin2 hnl (fun u hu => hsr.one u (List.mem_of_mem_take hu)) (by simp; omega)
            rw [← had] at k1
            refine ⟨.int .i64 ((ys.take len).length : Int), _, ?_, ?_, k2, k3, Nat.le_refl _⟩
            · clear hin2 hnl k2 k3 hle
              generalize (ys.take len).length = n at hn hcells k1
              simp [Builtin.copy_, hts, run_underlying ht, hsr.len, hn, run_sizeOf hsz, hcells, k1, goInt]
            · have : (Int.ofNat (min ys.length len)) = ((ys.take len).length : Int) := by rw [← hn]; rfl
              show VRel pl M (.int .i64 (Int.ofNat (min ys.length len))) _
              rw [this]; exact .int _ _
        · simp at he
      · simp at he
    · simp at he

theorem clearR_ok (hr : Rep pl M h w) {t e ty : TypeId} {s : Nat} {z : AV} (ht : P.underlying t = some (.slice e)) (hz : zeroA P e = some z) {x : AV} {cx : Value} (hx : VRel pl M x cx) {r : AV × AHeap}
    (he : clearR s z h (some x) = some r) {ts : Array TypeId} (hts : ts[0]? = some t) :
    ∃ cv w2, (Builtin.clear_ ts ty #[cx]).run P w = .ok cv w2 ∧ VRel pl M r.1 cv ∧ Rep pl M r.2 w2 ∧ Step h pl M w r.2 pl M w2 ∧ h.n ≤ r.2.n := by
  unfold clearR at he
  split at he
  · rename_i id ep off len cap e0
    simp at e0
    subst e0
    split at he
    · rename_i sz' op ep' xs hg
      rw [beq_iff, beq_iff] at he
      split at he
      · rename_i hc
        simp at hc he
        obtain ⟨⟨c1, c2⟩, c3⟩ := hc
        subst c1; subst c2; subst he
        obtain ⟨p, c, t', ad, cap', q1, rfl, q3, q4, q5, q6, q7, q8, q9, q10, q11, q12, q13, q14, q15, q16, q17⟩ := slice_at hr hx hg
        obtain ⟨zv, hz1, hz2⟩ := run_zero hz
        have hzr := ofValue_ok (pl := pl) (M := M) hz2
        have hzf := fits_ok c3 z (by simp)
        have hzc := hzr.cells
        have hzsz : zv.cells.size = s := by rw [← hzc.len]; exact hzf.1
        by_cases h0 : len = 0
        · subst h0
          have hw : writeAt xs off (List.replicate 0 z) = xs := by simp [writeAt]
          refine ⟨.tuple #[], w, by simp [Builtin.clear_, hts, run_underlying ht], .tuple rfl (fun j y h => by simp at h), ?_, ?_, Nat.le_refl _⟩
          · show Rep pl M (h.put id _) w
            rw [hw]
            exact (hr.samePut q1 hg).1
          · show Step h pl M w (h.put id _) pl M w
            rw [hw]
            exact (hr.samePut q1 hg).2
        · have had : ad = ⟨p.blk, off * s, none⟩ := by
            rcases q13 with h9 | h9
            · omega
            · exact h9
          have hin := inMem_replicate hzr hzf.2 len hzf.1 q8
          have hzl : (Builtin.zeroCells zv.cells len).toList.toArray = (Array.range (len * s)).map (zv.cells[· % zv.cells.size]!) := by
            apply Array.ext'
            simp [Builtin.zeroCells, hzsz]
          have hnl : (Builtin.zeroCells zv.cells len).toList.length = (List.replicate len z).length * s := by simp [Builtin.zeroCells, hzsz]
          obtain ⟨k1, k2, k3⟩ := write_ok (P := P) (off := off) (ys := List.replicate len z) (news := (Builtin.zeroCells zv.cells len).toList) hr hg q1 q3 q4 q5 q6 q7 q8 q9 q10 (by rw [hzl]; exact hin) hnl (by
            have hs : SrcRel P pl M w (.nilIface) (List.replicate len z) s (Builtin.zeroCells zv.cells len).toList → True := fun _ => trivial
            intro u hu
            simp only [Builtin.zeroCells, Array.toList_map, List.mem_map] at hu
            obtain ⟨k, _, rfl⟩ := hu
            have hmod : k % zv.cells.size < zv.cells.size := Nat.mod_lt _ (by omega)
            have : zv.cells[k % zv.cells.size]! = zv.cells[k % zv.cells.size] := by simp [hmod]
            rw [this]
            exact hzc.one (hzr.sc hzf.2) _ (by simp)) (by simp; omega)
          rw [← had] at k1
          refine ⟨.tuple #[], _, ?_, .tuple rfl (fun j y h => by simp at h), k2, k3, Nat.le_refl _⟩
          obtain ⟨m, rfl⟩ := Nat.exists_eq_succ_of_ne_zero h0
          simp [Builtin.clear_, hts, run_underlying ht, hz1, k1]
      · simp at he
    · simp at he
  · simp at he
end
end Go.Ev

/- Built-in functions; ranging over a text; calls. -/
namespace Go.Ev
open Go

section
variable {P : Program} {G : Env} {pl : Pl} {M : Mem} {h h' : AHeap} {w w' : World} {v : AV} {A : Fr} {a : Act}

theorem retH_some {o : Option (AV × AHeap)} {r : ARes} (e : retH o = some r) : ∃ p, o = some p ∧ r = .val p.1 p.2 := by
  cases o with
  | none => simp [retH] at e
  | some p => obtain ⟨v, h⟩ := p; simp [retH] at e; exact ⟨_, rfl, e.symm⟩

theorem bind_some {α β : Type} {o : Option α} {f : α → Option β} {b : β} (e : o.bind f = some b) : ∃ a, o = some a ∧ f a = some b := by
  cases o with
  | none => simp at e
  | some a => exact ⟨a, rfl, by simpa using e⟩

/-- A built-in's outcome, out of its own run. -/
theorem out_builtin {b : Builtin} {ts : Array TypeId} {args : Array Operand} {dst : Option Tmp} {ty : TypeId} {pos : String} {after : Array Edge} {guard : Option (Nat × Bool)} {s : Sem Value} {cv : Value} {pl' : Pl} {M' : Mem}
    (hb : ∀ cs, builtin b ts ty cs (args.map a.eval) = (do pure (.value (← s)))) (hrun : s.run P w = .ok cv w') (hv : VRel pl' M' v cv) (hr : Rep pl' M' h' w') (hs : Step h pl M w h' pl' M' w') (hn : h.n ≤ h'.n) :
    Out pl M h w ((execOp a.eval ⟨dst, .call ⟨.builtin b, args, ts⟩, ty, pos, after, guard⟩).run P w) v h' := by
  refine ⟨pl', M', cv, w', .value cv, ?_, .inl rfl, hv, hr, hs, hn⟩
  simp only [execOp, resolve, Sem.run_bind, Sem.run_pure, Result.andThen_ok, invoke, hb, hrun]

theorem toList_one {args : Array Operand} {x : Operand} (h : args.toList = [x]) : args = #[x] := by
  apply Array.ext'; simpa using h
theorem toList_two {args : Array Operand} {x y : Operand} (h : args.toList = [x, y]) : args = #[x, y] := by
  apply Array.ext'; simpa using h

def mm : Bool → Value → Value → Sem Value
  | true => Builtin.max2
  | false => Builtin.min2

theorem minF_ok (mx : Bool) {k : IntKind} : ∀ (l : List AV) (a0 : Int) (cs : List Value), VRels pl M l cs.toArray → minF mx k a0 l = some v → ∃ r, v = .int k r ∧ ∀ w : World, (cs.foldlM (mm mx) (.int k a0)).run P w = .ok (.int k r) w
  | [], a0, cs, hc, e => by
    simp [minF] at e
    have : cs = [] := List.eq_nil_of_length_eq_zero (by have := hc.len; simpa using this.symm)
    subst this
    exact ⟨a0, e.symm, fun w => rfl⟩
  | x :: r, a0, cs, hc, e => by
    cases x with
    | int kb b =>
      simp only [minF, mxI, mnI] at e
      cases cs with
      | nil => have := hc.len; simp at this
      | cons c cr =>
        have h0 := hc.at_ 0 _ rfl
        simp [Array.getD] at h0
        cases h0
        obtain ⟨rr, h1, h2⟩ := minF_ok mx r _ cr ⟨by have := hc.len; simpa using this, fun j y hj => by
          have := hc.at_ (j + 1) y (by simpa using hj)
          simpa [Array.getD_eq_getD_getElem?] using this⟩ e
        refine ⟨rr, h1, fun w => ?_⟩
        rw [List.foldlM_cons]
        cases mx
        · simp only [mm, Sem.run_bind, Builtin.min2, Sem.run_pure, Result.andThen_ok]
          have := h2 w
          simp only [ltI_eq] at this
          rw [← this]
          by_cases hh : b < a0 <;> simp [hh, mm]
        · simp only [mm, Sem.run_bind, Builtin.max2, Sem.run_pure, Result.andThen_ok]
          have := h2 w
          simp only [ltI_eq] at this
          rw [← this]
          by_cases hh : a0 < b <;> simp [hh, mm]
    | _ => simp [minF] at e

theorem ok_builtin (b : Builtin) (args : Array Operand) (ts : Array TypeId) : OkOp P G (.call ⟨.builtin b, args, ts⟩) := by
  intro pl M A h v h' a w dst ty pos after guard hg hr hf he
  simp only [opR] at he
  unfold builtinOp at he
  split at he
  · -- len
    rename_i x hargs
    have hargs := toList_one hargs
    subst hargs
    split at he
    · rename_i ht
      obtain ⟨t, ht0, ht1⟩ := bind_some ht
      obtain ⟨u, e1, e2⟩ := retV_some he
      simp at e2
      obtain ⟨rfl, rfl⟩ := e2
      cases hx : (opd G x).run A with
      | none => simp [hx, lenStr] at e1
      | some xv =>
        have hxv := opd_ok hg hf hx
        rw [hx] at e1
        cases xv <;> simp [lenStr] at e1
        subst e1
        generalize hq : a.eval x = cx at hxv
        cases hxv
        rename_i l
        refine out_builtin (s := Builtin.len_ ts ty #[.string ⟨⟨l⟩⟩]) (cv := .int .i64 (l.length : Int)) (fun cs => by simp [builtin, hq]) ?_ (.int _ _) hr (Step.refl _ _ _ _) (Nat.le_refl _)
        simp [Builtin.len_, ht0, run_underlying ht1, goInt]
        rfl
    · rename_i e' ht
      obtain ⟨t, ht0, ht1⟩ := bind_some ht
      obtain ⟨u, e1, e2⟩ := retV_some he
      simp at e2
      obtain ⟨rfl, rfl⟩ := e2
      cases hx : (opd G x).run A with
      | none => simp [hx, lenSl] at e1
      | some xv =>
        have hxv := opd_ok hg hf hx
        rw [hx] at e1
        have key : ∃ ad n c, a.eval x = .slice ad n c ∧ v = .int .i64 (Int.ofNat n) := by
          generalize a.eval x = cx at hxv
          cases xv <;> simp [lenSl] at e1
          case ls xs =>
            subst e1
            cases hxv with
            | lsn => exact ⟨_, _, _, rfl, rfl⟩
            | lsp h _ => cases h; exact ⟨_, _, _, rfl, rfl⟩
          all_goals (subst e1; cases hxv; exact ⟨_, _, _, rfl, rfl⟩)
        obtain ⟨ad, n, c, hq, rfl⟩ := key
        refine out_builtin (s := Builtin.len_ ts ty #[.slice ad n c]) (cv := .int .i64 (Int.ofNat n)) (fun cs => by simp [builtin, hq]) ?_ (.int _ _) hr (Step.refl _ _ _ _) (Nat.le_refl _)
        simp [Builtin.len_, ht0, run_underlying ht1, goInt]
    · rename_i k' e' ht
      obtain ⟨t, ht0, ht1⟩ := bind_some ht
      obtain ⟨u, e1, e2⟩ := retV_some he
      simp at e2
      obtain ⟨rfl, rfl⟩ := e2
      cases hx : (opd G x).run A with
      | none => simp [hx, lenMap] at e1
      | some xv =>
        have hxv := opd_ok hg hf hx
        rw [hx] at e1
        unfold lenMap at e1
        split at e1
        · rename_i q
          simp at q
          subst q
          simp at e1
          subst e1
          generalize hq : a.eval x = cx at hxv
          cases hxv
          refine out_builtin (s := Builtin.len_ ts ty #[.map none]) (cv := .int .i64 0) (fun cs => by simp [builtin, hq]) ?_ (.int _ _) hr (Step.refl _ _ _ _) (Nat.le_refl _)
          simp [Builtin.len_, ht0, run_underlying ht1, goInt]
        · rename_i id q
          simp at q
          subst q
          split at e1
          · rename_i es clock hgo
            simp at e1
            subst e1
            generalize hq : a.eval x = cx at hxv
            cases hxv with
            | map hp ha =>
              rename_i r p
              have ho := hr.obj id p _ hp hgo
              cases hb : w.heap[p.blk]? with
              | none => rw [hb] at ho; simp [ObjRel] at ho
              | some ob =>
                rw [hb] at ho
                cases ob <;> simp only [ObjRel] at ho
                rename_i entries clock'
                obtain ⟨h1, h2, h3, h4⟩ := ho
                have hrb := ha h1
                subst hrb
                refine out_builtin (s := Builtin.len_ ts ty #[.map (some p.blk)]) (cv := .int .i64 (Int.ofNat es.length)) (fun cs => by simp [builtin, hq]) ?_ (.int _ _) hr (Step.refl _ _ _ _) (Nat.le_refl _)
                simp [Builtin.len_, ht0, run_underlying ht1, goInt, getObj, Sem.run, hb, h3]
          · simp at e1
        · simp at e1
    · exact (fail_run he).elim
  · -- cap
    rename_i x hargs
    have hargs := toList_one hargs
    subst hargs
    split at he
    · rename_i e' ht
      obtain ⟨t, ht0, ht1⟩ := bind_some ht
      obtain ⟨u, e1, e2⟩ := retV_some he
      simp at e2
      obtain ⟨rfl, rfl⟩ := e2
      cases hx : (opd G x).run A with
      | none => simp [hx, capR] at e1
      | some xv =>
        have hxv := opd_ok hg hf hx
        rw [hx] at e1
        have key : ∃ ad n c, a.eval x = .slice ad n c ∧ v = .int .i64 (Int.ofNat c) := by
          generalize a.eval x = cx at hxv
          unfold capR at e1
          split at e1 <;> simp at e1 <;> subst e1
          · rename_i q; simp at q; subst q; cases hxv; exact ⟨_, _, _, rfl, rfl⟩
          · rename_i q; simp at q; subst q
            cases hxv with
            | ps hl ht hm hs hc => exact ⟨_, _, _, rfl, by rw [ht rfl]; rfl⟩
          · rename_i q; simp at q; subst q
            cases hxv with
            | slice hp hle hl hk ha => exact ⟨_, _, _, rfl, by rw [hk _ rfl]; rfl⟩
        obtain ⟨ad, n, c, hq, rfl⟩ := key
        refine out_builtin (s := Builtin.cap_ ts ty #[.slice ad n c]) (cv := .int .i64 (Int.ofNat c)) (fun cs => by simp [builtin, hq]) ?_ (.int _ _) hr (Step.refl _ _ _ _) (Nat.le_refl _)
        simp [Builtin.cap_, ht0, run_underlying ht1, goInt]
    · exact (fail_run he).elim
  · -- append
    rename_i s x hargs
    have hargs := toList_two hargs
    subst hargs
    split at he
    · rename_i e tx ht htx
      obtain ⟨t, ht0, ht1⟩ := bind_some ht
      obtain ⟨t2, ht2, ht3⟩ := bind_some htx
      have key : ∀ i : TypeInfo, P.info? e = some i → ((∃ e', P.underlying t2 = some (.slice e')) ∨ P.underlying t2 = some .string) →
          (match i.size, zeroA P e with
            | sz + 1, some z => match Nat.beq z.cells.length (sz + 1) with
              | true => (⟨fun A h => retH (appendO (sz + 1) i.bytes h ((opd G s).run A) ((opd G x).run A))⟩ : ROp)
              | false => fail
            | _, _ => fail).run A h = some (.val v h') → Out pl M h w ((execOp a.eval ⟨dst, .call ⟨.builtin .append, #[s, x], ts⟩, ty, pos, after, guard⟩).run P w) v h' := by
        intro i hi hk he
        split at he
        · rename_i sz z hsz hz
          rw [beq_iff] at he
          split at he
          · rename_i hzl
            simp at hzl
            obtain ⟨p, e1, e2⟩ := retH_some he
            simp at e2
            obtain ⟨rfl, rfl⟩ := e2
            cases hs : (opd G s).run A with
            | none => simp [hs, appendO] at e1
            | some sv =>
              cases hx : (opd G x).run A with
              | none => simp [hs, hx, appendO] at e1
              | some xv =>
                rw [hs, hx] at e1
                simp only [appendO] at e1
                have hsz : i.size = sz + 1 := hsz
                rw [← hsz] at e1 hzl
                obtain ⟨i2, zv, hz1, hz2, hz3⟩ := zeroA_info hz
                rw [hi] at hz1
                simp at hz1
                subst hz1
                have hzc := (ofValue_ok (pl := pl) (M := M) hz3).cells.len
                obtain ⟨cv, w2, pl2, k1, k2, k3, k4, k5⟩ := appendV_ok (P := P) (ty := ty) hr (elemOf_some ht1) hi hz2 (by rw [← hzc]; exact hzl) (by omega) hk (opd_ok hg hf hs) (opd_ok hg hf hx) e1
                refine out_builtin (s := Builtin.append_ ts ty #[a.eval s, a.eval x]) (fun cs => by simp [builtin]) (by rw [append_types ht0 ht2]; exact k1) k2 k3 k4 k5
          · exact (fail_run he).elim
        · exact (fail_run he).elim
      cases hi : P.info? e with
      | none => rw [hi] at he; cases tx <;> exact (fail_run he).elim
      | some i =>
        rw [hi] at he
        cases tx <;> try exact (fail_run he).elim
        case slice e' => exact key i hi (.inl ⟨e', ht3⟩) he
        case string => exact key i hi (.inr ht3) he
    · exact (fail_run he).elim
  · -- copy
    rename_i d s hargs
    have hargs := toList_two hargs
    subst hargs
    split at he
    · rename_i e ht
      obtain ⟨t, ht0, ht1⟩ := bind_some ht
      split at he
      · rename_i n hsz
        obtain ⟨p, e1, e2⟩ := retH_some he
        simp at e2
        obtain ⟨rfl, rfl⟩ := e2
        cases hd : (opd G d).run A with
        | none => simp [hd, copyO] at e1
        | some dv =>
          cases hs : (opd G s).run A with
          | none => simp [hd, hs, copyO] at e1
          | some sv =>
            rw [hd, hs] at e1
            obtain ⟨cv, w2, k1, k2, k3, k4, k5⟩ := copyO_ok (P := P) (ty := ty) hr (elemOf_some ht1) hsz (opd_ok hg hf hd) (opd_ok hg hf hs) e1 ht0
            exact out_builtin (s := Builtin.copy_ ts ty #[a.eval d, a.eval s]) (fun cs => by simp [builtin]) k1 k2 k3 k4 k5
      · exact (fail_run he).elim
    · exact (fail_run he).elim
  · -- clear
    rename_i x hargs
    have hargs := toList_one hargs
    subst hargs
    split at he
    · rename_i e ht
      obtain ⟨t, ht0, ht1⟩ := bind_some ht
      split at he
      · rename_i n z hsz hz
        obtain ⟨p, e1, e2⟩ := retH_some he
        simp at e2
        obtain ⟨rfl, rfl⟩ := e2
        cases hx : (opd G x).run A with
        | none => simp [hx, clearR] at e1
        | some xv =>
          rw [hx] at e1
          obtain ⟨cv, w2, k1, k2, k3, k4, k5⟩ := clearR_ok (P := P) (ty := ty) hr (elemOf_some ht1) hz (opd_ok hg hf hx) e1 ht0
          exact out_builtin (s := Builtin.clear_ ts ty #[a.eval x]) (fun cs => by simp [builtin]) k1 k2 k3 k4 k5
      · exact (fail_run he).elim
    · exact (fail_run he).elim
  · -- min
    simp only [] at he
    split at he
    · rename_i l hl
      obtain ⟨u, e1, e2⟩ := retV_some he
      simp at e2
      obtain ⟨rfl, rfl⟩ := e2
      have hvs := opds_ok hg hf _ _ hl
      unfold minR at e1
      split at e1
      · rename_i k a0 r
        cases hargs : args.toList with
        | nil => rw [hargs] at hvs; have := hvs.len; simp at this
        | cons x xs =>
          rw [hargs] at hvs
          have h0 := hvs.at_ 0 _ rfl
          simp [Array.getD] at h0
          generalize hq : a.eval x = cx at h0
          cases h0
          obtain ⟨rr, h1, h2⟩ := minF_ok (P := P) false r a0 (xs.map a.eval) ⟨by have := hvs.len; simpa using this, fun j y hj => by
            have := hvs.at_ (j + 1) y (by simpa using hj)
            simpa [Array.getD_eq_getD_getElem?] using this⟩ e1
          subst h1
          have hm : (args.map a.eval).toList = .int k a0 :: xs.map a.eval := by simp [hargs, hq]
          refine out_builtin (s := Builtin.min_ ts ty (args.map a.eval)) (cv := .int k rr) (fun cs => rfl) ?_ (.int _ _) hr (Step.refl _ _ _ _) (Nat.le_refl _)
          simp only [Builtin.min_, hm]
          exact h2 w
      · simp at e1
    · simp at he
  · -- max
    simp only [] at he
    split at he
    · rename_i l hl
      obtain ⟨u, e1, e2⟩ := retV_some he
      simp at e2
      obtain ⟨rfl, rfl⟩ := e2
      have hvs := opds_ok hg hf _ _ hl
      unfold minR at e1
      split at e1
      · rename_i k a0 r
        cases hargs : args.toList with
        | nil => rw [hargs] at hvs; have := hvs.len; simp at this
        | cons x xs =>
          rw [hargs] at hvs
          have h0 := hvs.at_ 0 _ rfl
          simp [Array.getD] at h0
          generalize hq : a.eval x = cx at h0
          cases h0
          obtain ⟨rr, h1, h2⟩ := minF_ok (P := P) true r a0 (xs.map a.eval) ⟨by have := hvs.len; simpa using this, fun j y hj => by
            have := hvs.at_ (j + 1) y (by simpa using hj)
            simpa [Array.getD_eq_getD_getElem?] using this⟩ e1
          subst h1
          have hm : (args.map a.eval).toList = .int k a0 :: xs.map a.eval := by simp [hargs, hq]
          refine out_builtin (s := Builtin.max_ ts ty (args.map a.eval)) (cv := .int k rr) (fun cs => rfl) ?_ (.int _ _) hr (Step.refl _ _ _ _) (Nat.le_refl _)
          simp only [Builtin.max_, hm]
          exact h2 w
      · simp at e1
    · simp at he
  · exact (fail_run he).elim
end
end Go.Ev

/- Maps: a key's form, a look-up, an update. -/
namespace Go.Ev
open Go

section
variable {P : Program} {G : Env} {pl : Pl} {M : Mem} {h h' : AHeap} {w w' : World} {v : AV} {A : Fr} {a : Act}

/-- A key of plain data is a key. -/
theorem checkKey_leaves (em : Bool) {vx : Array Value} : ∀ (n : Nat) (t : TypeId) (off : Nat) (ls : List (Nat × Nat)) (cx : Value) (d sz : Nat) (w : World),
    leaves P n t off = some ls → szOf P t = some sz → off + sz ≤ vx.size → AtOff P t vx off cx → (Instr.checkKey em (d + n) t cx).run P w = .ok () w
  | 0, _, _, _, _, _, _, _, e, _, _, _ => by simp [leaves] at e
  | n + 1, t, off, ls, cx, d, sz, w, e, hsz, hlx, hcx => by
    rcases leaves_cases e with ⟨fs, sz', hu, hs', hst, hl⟩ | ⟨dd, k, hu, hs1, hk, rfl⟩
    · rw [hsz] at hs'
      simp at hs'
      subst hs'
      simp only [AtOff, isAgg_struct hu, hsz, Option.getD_some] at hcx
      obtain ⟨ex, rfl, hex⟩ := hcx
      rw [show d + (n + 1) = (d + n) + 1 by omega, Instr.checkKey]
      simp only [Sem.run_bind, run_underlying hu, Result.andThen_ok]
      rw [← Array.forIn_toList]
      generalize fs.toList = fl at hl
      clear hu e
      induction fl generalizing ls with
      | nil => simp
      | cons f r ih =>
        obtain ⟨hname, s, a1, b1, g1, g2, g3, g4, rfl⟩ := leavesF_cons hl
        have hag : ∃ ag, isAggB P f.type = some ag ∧ (ag = false → s = 1) := by
          cases n with
          | zero => simp [leaves] at g2
          | succ n =>
            rcases leaves_cases g2 with ⟨fs2, sz2, k1, k2, k3, k4⟩ | ⟨d2, k2, k3, k4, k5, k6⟩
            · exact ⟨true, isAgg_struct k1, fun h => by cases h⟩
            · rw [g1] at k4; simp at k4; exact ⟨false, isAgg_tag k3 k5, fun _ => k4⟩
        obtain ⟨ag, q1, q2⟩ := hag
        obtain ⟨cvx, r1, r2⟩ := part_atOff (P := P) (vx := vx) q1 g1 q2 g4 hex (fun k hk => by rw [Array.getElem?_eq_getElem (by omega)]; rfl) w
        simp only [List.forIn_cons, Sem.run_bind, hname, ne_eq, not_false_eq_true, if_true, Result.andThen_ok, r1, checkKey_leaves em n f.type (off + f.offset) a1 cvx d s w g2 g1 (by omega) r2, Sem.run_pure]
        exact ih b1 g3
    · rw [show d + (n + 1) = (d + n) + 1 by omega, Instr.checkKey]
      simp only [Sem.run_bind, run_underlying hu, Result.andThen_ok]
      rcases tagOf_some hk with ⟨rfl, _⟩ | ⟨i, rfl, _⟩ | ⟨rfl, _⟩ <;> simp

theorem leaves_isAgg {n : Nat} {t : TypeId} {ag : Bool} {ls : List (Nat × Nat)} (ha : isAggB P t = some ag) (e : leaves P n t 0 = some ls) :
    (ag = true ∧ ∃ fs, P.underlying t = some (.struct fs)) ∨ (ag = false ∧ ∃ d k, P.underlying t = some d ∧ szOf P t = some 1 ∧ tagOf d = some k ∧ ls = [(0, k)]) := by
  cases n with
  | zero => simp [leaves] at e
  | succ n =>
    rcases leaves_cases e with ⟨fs, sz', hu, _⟩ | ⟨dd, k, hu, hs1, hk, h9⟩
    · rw [isAgg_struct hu] at ha; simp at ha; exact .inl ⟨ha, fs, hu⟩
    · rw [isAgg_tag hu hk] at ha; simp at ha; exact .inr ⟨ha, dd, k, hu, hs1, hk, h9⟩

/-- What the type of a map's keys says. -/
structure KeyT (P : Program) (kt : TypeId) (ag : Bool) (sz : Nat) (lv : List (Nat × Nat)) : Prop where
  ag : isAggB P kt = some ag
  sz : szOf P kt = some sz
  lv : leaves P 10 kt 0 = some lv

theorem keyR_check {kt : TypeId} {ag : Bool} {sz : Nat} {lv : List (Nat × Nat)} (hk : KeyT P kt ag sz lv) {k : AV} {ck : Value} (hr : VRel pl M k ck) (e : keyR ag sz k = true) (em : Bool) (w : World) :
    (Instr.checkKey em 10000 kt ck).run P w = .ok () w := by
  rcases leaves_isAgg hk.ag hk.lv with ⟨rfl, fs, hu⟩ | ⟨rfl, d, t, hu, h1, h2, h3⟩
  · cases k <;> simp [keyR, beq_iff] at e
    cases hr with
    | agg h1 h2 h3 => exact checkKey_leaves em 10 kt 0 lv _ 9990 sz w hk.lv hk.sz (by omega) (atOff_whole hu)
  · rw [show (10000 : Nat) = 9999 + 1 from rfl, Instr.checkKey]
    simp only [Sem.run_bind, run_underlying hu, Result.andThen_ok]
    rcases tagOf_some h2 with ⟨rfl, _⟩ | ⟨i, rfl, _⟩ | ⟨rfl, _⟩ <;> simp

theorem keyEq_some {ag : Bool} {sz : Nat} {lv : List (Nat × Nat)} {x y : AV} {b : Bool} (e : keyEq ag sz lv x y = some b) :
    (∃ as bs, ag = true ∧ x = .agg as ∧ y = .agg bs ∧ as.length = sz ∧ bs.length = sz ∧ eqL as bs lv = some b) ∨ (∃ o t, ag = false ∧ lv = [(o, t)] ∧ eqS t x y = some b) := by
  unfold keyEq at e
  split at e
  · rename_i as bs
    rw [beq_iff, beq_iff] at e
    by_cases h1 : as.length = sz
    · by_cases h2 : bs.length = sz
      · simp [h1, h2] at e; exact .inl ⟨as, bs, rfl, rfl, rfl, h1, h2, e⟩
      · simp [h2] at e
    · simp [h1] at e
  · exact .inr ⟨_, _, rfl, rfl, e⟩
  · simp at e

theorem keyEq_ok {kt : TypeId} {ag : Bool} {sz : Nat} {lv : List (Nat × Nat)} (hk : KeyT P kt ag sz lv) {x y : AV} {cx cy : Value} (hx : VRel pl M x cx) (hy : VRel pl M y cy) {b : Bool} (e : keyEq ag sz lv x y = some b) (w : World) :
    (Op.equal kt cx cy).run P w = .ok b w := by
  rcases keyEq_some e with ⟨as, bs, rfl, rfl, rfl, h1, h2, h3⟩ | ⟨o, t, rfl, rfl, h3⟩
  · rcases leaves_isAgg hk.ag hk.lv with ⟨_, fs, hu⟩ | ⟨h, _⟩
    · cases hx with
      | agg a1 a2 a3 =>
        cases hy with
        | agg b1 b2 b3 => exact eqL_ok (P := P) (pl := pl) (M := M) ⟨a1, a3⟩ ⟨b1, b3⟩ 10 kt 0 lv _ _ b 9990 sz w hk.lv hk.sz (by omega) (by omega) (atOff_whole hu) (atOff_whole hu) h3
    · cases h
  · rcases leaves_isAgg hk.ag hk.lv with ⟨h, _⟩ | ⟨_, d, k, hu, g1, g2, g3⟩
    · cases h
    · simp at g3
      obtain ⟨_, rfl⟩ := g3
      exact eqS_ok hx hy h3 hu g2 9999 w

theorem bytes_beq (x y : List UInt8) : ((⟨⟨x⟩⟩ : ByteArray) == ⟨⟨y⟩⟩) = (x == y) := by
  show ((⟨x⟩ : Array UInt8) == ⟨y⟩) = _
  rw [Bool.eq_iff_iff]; simp

theorem sameNow_ok {d : TypeDesc} {t : Nat} (hd : tagOf d = some t) {x y : AV} {cx cy : Value} (hx : VRel pl M x cx) (hy : VRel pl M y cy) {b : Bool} (e : eqS t x y = some b) : Instr.sameNow d cx cy = some b := by
  unfold eqS at e
  split at e
  · rw [kindB_eq] at e
    split at e
    · rename_i hj
      simp at hj e
      subst hj
      cases hx; cases hy
      rcases tagOf_some hd with ⟨_, h0⟩ | ⟨i, rfl, _⟩ | ⟨_, h0⟩
      · cases h0
      · simp [Instr.sameNow, ← e, eqI_eq]
      · cases h0
    · simp at e
  · simp at e
    cases hx; cases hy
    rcases tagOf_some hd with ⟨_, h0⟩ | ⟨i, rfl, h0⟩ | ⟨rfl, _⟩
    · cases h0
    · cases h0
    · rename_i s1 s2
      simp only [Instr.sameNow, ← e, eqB_eq, Option.some.injEq]
      rw [bytes_beq]
  · simp at e
    cases hx; cases hy
    rcases tagOf_some hd with ⟨rfl, _⟩ | ⟨i, rfl, h0⟩ | ⟨_, h0⟩
    · simp [Instr.sameNow, ← e]
    · cases h0
    · cases h0
  · simp at e

/-- The entries of a map, and the model's. -/
structure EntsRel (pl : Pl) (M : Mem) (es : List AEnt) (ents : List MapEntry) : Prop where
  len : es.length = ents.length
  at_ : ∀ (i : Nat) (e : AEnt), es[i]? = some e → ∃ e' : MapEntry, ents[i]? = some e' ∧ VRel pl M e.key e'.key ∧ VRel pl M e.val e'.val ∧ e'.born = e.born

theorem EntsRel.tail {e : AEnt} {es : List AEnt} {c : MapEntry} {cs : List MapEntry} (h : EntsRel pl M (e :: es) (c :: cs)) : EntsRel pl M es cs :=
  ⟨by have := h.len; simpa using this, fun i e he => h.at_ (i + 1) e (by simpa using he)⟩
theorem EntsRel.head {e : AEnt} {es : List AEnt} {c : MapEntry} {cs : List MapEntry} (h : EntsRel pl M (e :: es) (c :: cs)) : VRel pl M e.key c.key ∧ VRel pl M e.val c.val := by
  obtain ⟨e', h1, h2, h3, _⟩ := h.at_ 0 e rfl
  simp at h1
  subst h1
  exact ⟨h2, h3⟩

/-- What is found: the place, the entry; and the model's. -/
def Found (pl : Pl) (M : Mem) (es : List AEnt) (i0 : Nat) : Option (Nat × AEnt) → Option (Nat × Value) → Prop
  | none, none => True
  | some (i, e), some (j, cv) => i = j ∧ i0 ≤ i ∧ es[i - i0]? = some e ∧ VRel pl M e.val cv
  | _, _ => False

theorem Found.cons {e : AEnt} {es : List AEnt} {i : Nat} {r : Option (Nat × AEnt)} {cr : Option (Nat × Value)} (h : Found pl M es (i + 1) r cr) : Found pl M (e :: es) i r cr := by
  rcases r with _ | ⟨q, en⟩ <;> rcases cr with _ | ⟨j, cv⟩ <;> simp only [Found] at h ⊢
  obtain ⟨rfl, h1, h2, h3⟩ := h
  refine ⟨rfl, by omega, ?_, h3⟩
  rw [show q - i = (q - (i + 1)) + 1 by omega]
  simpa using h2

theorem findEnt_cons {ag : Bool} {sz : Nat} {lv : List (Nat × Nat)} {k : AV} {e : AEnt} {es : List AEnt} {i : Nat} {r : Option (Nat × AEnt)} (h : findEnt ag sz lv k (e :: es) i = some r) :
    (keyEq ag sz lv k e.key = some true ∧ r = some (i, e)) ∨ (keyEq ag sz lv k e.key = some false ∧ findEnt ag sz lv k es (i + 1) = some r) := by
  simp only [findEnt] at h
  cases hq : keyEq ag sz lv k e.key with
  | none => simp [hq, findThen] at h
  | some b => cases b <;> simp [hq, findThen] at h
              · exact .inr ⟨rfl, h⟩
              · exact .inl ⟨rfl, h.symm⟩

theorem findAsking_ok {kt : TypeId} {ag : Bool} {sz : Nat} {lv : List (Nat × Nat)} (hk : KeyT P kt ag sz lv) {k : AV} {ck : Value} (hck : VRel pl M k ck) (w : World) :
    ∀ (es : List AEnt) (ents : List MapEntry) (i : Nat) (r : Option (Nat × AEnt)), EntsRel pl M es ents → findEnt ag sz lv k es i = some r → ∃ cr, (Instr.findAsking kt ck ents i).run P w = .ok cr w ∧ Found pl M es i r cr
  | [], ents, i, r, he, h => by
    have : ents = [] := List.eq_nil_of_length_eq_zero (by have := he.len; simpa using this.symm)
    subst this
    simp [findEnt] at h
    subst h
    exact ⟨none, rfl, trivial⟩
  | e :: es, [], i, r, he, h => by have := he.len; simp at this
  | e :: es, c :: cs, i, r, he, h => by
    obtain ⟨h1, h2⟩ := he.head
    rcases findEnt_cons h with ⟨k1, rfl⟩ | ⟨k1, k2⟩
    · refine ⟨some (i, c.val), ?_, rfl, Nat.le_refl _, by simp, h2⟩
      simp [Instr.findAsking, keyEq_ok hk hck h1 k1]
    · obtain ⟨cr, g1, g2⟩ := findAsking_ok hk hck w es cs (i + 1) r he.tail k2
      refine ⟨cr, ?_, g2.cons⟩
      simp [Instr.findAsking, keyEq_ok hk hck h1 k1, g1]

theorem findNow_ok {ag : Bool} {sz : Nat} {d : TypeDesc} {o t : Nat} (hd : tagOf d = some t) {k : AV} {ck : Value} (hck : VRel pl M k ck) (hag : ag = false) :
    ∀ (es : List AEnt) (ents : List MapEntry) (i : Nat) (r : Option (Nat × AEnt)), EntsRel pl M es ents → findEnt ag sz [(o, t)] k es i = some r → ∃ cr, Instr.findNow d ck ents i = some cr ∧ Found pl M es i r cr
  | [], ents, i, r, he, h => by
    have : ents = [] := List.eq_nil_of_length_eq_zero (by have := he.len; simpa using this.symm)
    subst this
    simp [findEnt] at h
    subst h
    exact ⟨none, rfl, trivial⟩
  | e :: es, [], i, r, he, h => by have := he.len; simp at this
  | e :: es, c :: cs, i, r, he, h => by
    obtain ⟨h1, h2⟩ := he.head
    have key : ∀ b, keyEq ag sz [(o, t)] k e.key = some b → Instr.sameNow d ck c.key = some b := by
      intro b hb
      rcases keyEq_some hb with ⟨as, bs, h0, _⟩ | ⟨o2, t2, _, h3, h4⟩
      · rw [hag] at h0; cases h0
      · simp at h3
        obtain ⟨_, rfl⟩ := h3
        exact sameNow_ok hd hck h1 h4
    rcases findEnt_cons h with ⟨k1, rfl⟩ | ⟨k1, k2⟩
    · refine ⟨some (i, c.val), ?_, rfl, Nat.le_refl _, by simp, h2⟩
      simp [Instr.findNow, key _ k1]
    · obtain ⟨cr, g1, g2⟩ := findNow_ok hd hck hag es cs (i + 1) r he.tail k2
      refine ⟨cr, ?_, g2.cons⟩
      simp [Instr.findNow, key _ k1, g1]

theorem findKey_ok {kt : TypeId} {ag : Bool} {sz : Nat} {lv : List (Nat × Nat)} (hk : KeyT P kt ag sz lv) {k : AV} {ck : Value} (hck : VRel pl M k ck) (w : World) {es : List AEnt} {ents : List MapEntry} {r : Option (Nat × AEnt)}
    (he : EntsRel pl M es ents) (h : findEnt ag sz lv k es 0 = some r) : ∃ cr, (Instr.findKey kt ck ents).run P w = .ok cr w ∧ Found pl M es 0 r cr := by
  rcases leaves_isAgg hk.ag hk.lv with ⟨rfl, fs, hu⟩ | ⟨rfl, d, t, hu, h1, h2, h3⟩
  · cases ents with
    | nil =>
      have : es = [] := List.eq_nil_of_length_eq_zero (by have := he.len; simpa using this)
      subst this
      simp [findEnt] at h
      subst h
      exact ⟨none, by simp [Instr.findKey, run_underlying hu, Instr.findNow], trivial⟩
    | cons c cs =>
      obtain ⟨cr, g1, g2⟩ := findAsking_ok hk hck w es (c :: cs) 0 r he h
      exact ⟨cr, by simp [Instr.findKey, run_underlying hu, Instr.findNow, Instr.sameNow, g1], g2⟩
  · subst h3
    obtain ⟨cr, g1, g2⟩ := findNow_ok h2 hck rfl es ents 0 r he h
    exact ⟨cr, by simp [Instr.findKey, run_underlying hu, g1], g2⟩

theorem withOk_ok {ok b : Bool} {z : AV} {v : AV} {cz : Value} (h : withOk ok (some z) b = some v) (hz : VRel pl M z cz) : VRel pl M v (if ok then .tuple #[cz, .bool b] else cz) := by
  cases ok <;> simp [withOk] at h <;> subst h
  · exact hz
  · refine .tuple rfl fun j y hj => ?_
    match j, hj with
    | 0, hj => simp at hj; subst hj; exact hz
    | 1, hj => simp at hj; subst hj; exact .bool _

theorem ok_lookup (t : TypeId) (m k : Operand) (ok : Bool) : OkOp P G (.lookup t m k ok) := by
  intro pl M A h v h' a w dst ty pos after guard hg hr hf he
  simp only [opR] at he
  split at he
  · rename_i kt e hu
    split at he
    · rename_i ag sz lv h1 h2 h3
      have hk : KeyT P kt ag sz lv := ⟨h1, h2, h3⟩
      obtain ⟨u, e1, e2⟩ := retV_some he
      simp at e2
      obtain ⟨rfl, rfl⟩ := e2
      cases hm : (opd G m).run A with
      | none => simp [hm, lookupR] at e1
      | some mv =>
        cases hkk : (opd G k).run A with
        | none => simp [hm, hkk, lookupR] at e1
        | some kv =>
          have hmv := opd_ok hg hf hm
          have hkv := opd_ok hg hf hkk
          rw [hm, hkk] at e1
          have zero : ∀ z, withOk ok z false = some v → ∃ zv, z = some zv ∧ withOk ok (some zv) false = some v := by
            intro z hz
            cases z with
            | none => simp [withOk] at hz
            | some zv => exact ⟨zv, rfl, hz⟩
          cases mv <;> simp only [lookupR] at e1 <;> (try (exact absurd e1 (by simp)))
          · -- nil
            split at e1
            · rename_i hkr
              obtain ⟨zv, hz1, hz2⟩ := zero _ e1
              obtain ⟨cz, hz3, hz4⟩ := run_zero hz1
              generalize hq : a.eval m = cm at hmv
              cases hmv
              have hc := fun em w => keyR_check (P := P) hk hkv hkr em w
              have hfk : ∀ w, (Instr.findKey kt (a.eval k) []).run P w = .ok none w := by
                intro w
                obtain ⟨cr, g1, g2⟩ := findKey_ok (P := P) (pl := pl) (M := M) hk hkv w (es := []) (ents := []) (r := none) ⟨rfl, fun i e h => by simp at h⟩ rfl
                cases cr with
                | none => exact g1
                | some _ => exact g2.elim
              have hrun : (Instr.lookup t (.map none) (a.eval k) ok).run P w = .ok (if ok then .tuple #[cz, .bool false] else cz) w := by
                simp [Instr.lookup, run_underlying hu, hc, hfk, hz3]
              simpa [execOp, hq, hrun] using Out.pure hr (withOk_ok hz2 (ofValue_ok hz4))
            · simp at e1
          · -- a map
            rename_i id
            split at e1
            · rename_i hkr
              split at e1
              · rename_i es clock hgo
                generalize hq : a.eval m = cm at hmv
                cases hmv with
                | map hp ha =>
                  rename_i r p
                  have ho := hr.obj id p _ hp hgo
                  cases hb : w.heap[p.blk]? with
                  | none => rw [hb] at ho; simp [ObjRel] at ho
                  | some ob =>
                    rw [hb] at ho
                    cases ob <;> simp only [ObjRel] at ho
                    rename_i entries clock'
                    obtain ⟨g1, g2, g3, g4⟩ := ho
                    have hrb := ha g1
                    subst hrb
                    have hgm : (getObj p.blk).run P w = .ok (.map entries clock') w := by simp [getObj, Sem.run, hb]
                    have hents : EntsRel pl M es entries.toList := ⟨by simpa using g3, fun i e hi => by simpa using g4 i e hi⟩
                    have hc := fun em w => keyR_check (P := P) hk hkv hkr em w
                    unfold lookupE at e1
                    split at e1
                    · rename_i i en hfe
                      obtain ⟨cr, q1, q2⟩ := findKey_ok (P := P) hk hkv w hents hfe
                      cases cr with
                      | none => exact q2.elim
                      | some cr =>
                        obtain ⟨j, cv⟩ := cr
                        obtain ⟨_, _, _, q3⟩ := q2
                        have hrun : (Instr.lookup t (.map (some p.blk)) (a.eval k) ok).run P w = .ok (if ok then .tuple #[cv, .bool true] else cv) w := by
                          simp [Instr.lookup, run_underlying hu, hgm, hc, q1]
                        simpa [execOp, hq, hrun] using Out.pure hr (withOk_ok e1 q3)
                    · rename_i hfe
                      obtain ⟨zv, hz1, hz2⟩ := zero _ e1
                      obtain ⟨cz, hz3, hz4⟩ := run_zero hz1
                      obtain ⟨cr, q1, q2⟩ := findKey_ok (P := P) hk hkv w hents hfe
                      cases cr with
                      | some _ => exact q2.elim
                      | none =>
                        have hrun : (Instr.lookup t (.map (some p.blk)) (a.eval k) ok).run P w = .ok (if ok then .tuple #[cz, .bool false] else cz) w := by
                          simp [Instr.lookup, run_underlying hu, hgm, hc, q1, hz3]
                        simpa [execOp, hq, hrun] using Out.pure hr (withOk_ok hz2 (ofValue_ok hz4))
                    · simp at e1
              · simp at e1
            · simp at e1
    · exact (fail_run he).elim
  · exact (fail_run he).elim

end
end Go.Ev

/- Maps: an update. Ranging over a text. A call. Every operation. -/
namespace Go.Ev
open Go

section
variable {P : Program} {G : Env} {pl : Pl} {M : Mem} {h h' : AHeap} {w w' : World} {v : AV} {A : Fr} {a : Act}

theorem plainSame_ok {x y : AV} {cx cy : Value} (hx : VRel pl M x cx) (hy : VRel pl M y cy) (e : plainSame x y = true) (n : Nat) : cx = cy ∧ Instr.sameBits n cy cx = true := by
  unfold plainSame at e
  split at e
  · simp [kindB_eq, eqI_eq] at e
    obtain ⟨rfl, rfl⟩ := e
    cases hx; cases hy
    cases n <;> simp [Instr.sameBits]
  · rw [eqB_eq] at e
    simp at e
    subst e
    cases hx; cases hy
    cases n <;> simp [Instr.sameBits, bytes_beq]
  · simp at e
    subst e
    cases hx; cases hy
    cases n <;> simp [Instr.sameBits]
  · simp at e

theorem plainSames_ok {n : Nat} : ∀ {xs ys : List AV} {cxs cys : List Value}, VRels pl M xs cxs.toArray → VRels pl M ys cys.toArray → plainSames xs ys = true → cxs = cys ∧ (cys.zip cxs).all (fun (x, y) => Instr.sameBits n x y) = true
  | [], [], cxs, cys, hx, hy, _ => by
    have h1 : cxs = [] := List.eq_nil_of_length_eq_zero (by have := hx.len; simpa using this.symm)
    have h2 : cys = [] := List.eq_nil_of_length_eq_zero (by have := hy.len; simpa using this.symm)
    subst h1; subst h2; exact ⟨rfl, rfl⟩
  | x :: xs, y :: ys, [], cys, hx, hy, e => by have := hx.len; simp at this
  | x :: xs, y :: ys, cx :: cxs, [], hx, hy, e => by have := hy.len; simp at this
  | x :: xs, y :: ys, cx :: cxs, cy :: cys, hx, hy, e => by
    simp only [plainSames, Bool.and_eq_true] at e
    have h1 := hx.at_ 0 _ rfl
    have h2 := hy.at_ 0 _ rfl
    simp [Array.getD] at h1 h2
    obtain ⟨q1, q2⟩ := plainSame_ok h1 h2 e.1 n
    have tl : ∀ {z : AV} {zs : List AV} {c : Value} {cs : List Value}, VRels pl M (z :: zs) (c :: cs).toArray → VRels pl M zs cs.toArray := by
      intro z zs c cs hz
      exact ⟨by have := hz.len; simpa using this, fun j y hj => by
        have := hz.at_ (j + 1) y (by simpa using hj)
        simpa [Array.getD_eq_getD_getElem?] using this⟩
    obtain ⟨q3, q4⟩ := plainSames_ok (n := n) (tl hx) (tl hy) e.2
    subst q1; subst q3
    exact ⟨rfl, by simp only [List.zip_cons_cons, List.all_cons, q2, q4, Bool.and_self]⟩

theorem keySame_ok {x y : AV} {cx cy : Value} (hx : VRel pl M x cx) (hy : VRel pl M y cy) (e : keySame x y = true) : cx = cy ∧ Instr.sameBits 10000 cy cx = true := by
  unfold keySame at e
  split at e
  · cases hx with
    | agg a1 a2 a3 =>
      cases hy with
      | agg b1 b2 b3 =>
        obtain ⟨q1, q2⟩ := plainSames_ok (pl := pl) (M := M) (n := 9999) ⟨a1, a3⟩ ⟨b1, b3⟩ e
        rw [Array.toList_inj] at q1
        subst q1
        refine ⟨rfl, ?_⟩
        rw [show (10000 : Nat) = 9999 + 1 from rfl, Instr.sameBits]
        simp only [beq_self_eq_true, Bool.true_and]
        exact q2
  · exact plainSame_ok hx hy e 10000

theorem entsRel_objRel {p : Place} {es : List AEnt} {clock : Nat} {entries : Array MapEntry} (hp : p.ep = 0) (he : EntsRel pl M es entries.toList) : ObjRel pl M p (.map es clock) (some (.map entries clock)) := by
  refine ⟨hp, rfl, by simpa using he.len, fun i e hi => ?_⟩
  obtain ⟨e', h1, h2⟩ := he.at_ i e hi
  exact ⟨e', by simpa using h1, h2⟩

theorem updateR_ok {kt t e : TypeId} {ag : Bool} {sz : Nat} {lv : List (Nat × Nat)} (hk : KeyT P kt ag sz lv) (hu : P.underlying t = some (.map kt e)) (hr : Rep pl M h w) {m k x : AV} {cm ck cx : Value} (hm : VRel pl M m cm) (hck : VRel pl M k ck) (hx : VRel pl M x cx)
    (he : updateR ag sz lv h (some m) (some k) (some x) = some h') : ∃ w', (Instr.mapUpdate t cm ck cx).run P w = .ok () w' ∧ Rep pl M h' w' ∧ Step h pl M w h' pl M w' ∧ h'.n = h.n := by
  cases m <;> simp only [updateR] at he <;> (try (exact absurd he (by simp)))
  rename_i id
  split at he
  · rename_i hkr
    split at he
    · rename_i es clock hgo
      cases hm with
      | map hp ha =>
        rename_i r p
        have ho := hr.obj id p _ hp hgo
        cases hb : w.heap[p.blk]? with
        | none => rw [hb] at ho; simp [ObjRel] at ho
        | some ob =>
          rw [hb] at ho
          cases ob <;> simp only [ObjRel] at ho
          rename_i entries clock'
          obtain ⟨g1, g2, g3, g4⟩ := ho
          have hrb := ha g1
          subst hrb
          subst g2
          have hents : EntsRel pl M es entries.toList := ⟨by simpa using g3, fun i e hi => by simpa using g4 i e hi⟩
          have hc := fun em w => keyR_check (P := P) hk hck hkr em w
          have hgm : (getObj p.blk).run P w = .ok (.map entries clock') w := by simp [getObj, Sem.run, hb]
          have hsm : ∀ o, (setObj p.blk o).run P w = .ok () { w with heap := w.heap.setIfInBounds p.blk o } := by intro o; simp [setObj, Sem.run, hb]
          have hlt := hr.blk id p hp
          have fin : ∀ (es' : List AEnt) (ents' : Array MapEntry) (c' : Nat), EntsRel pl M es' ents'.toList →
              Rep pl M (h.put id (.map es' c')) { w with heap := w.heap.setIfInBounds p.blk (.map ents' c') } ∧ Step h pl M w (h.put id (.map es' c')) pl M { w with heap := w.heap.setIfInBounds p.blk (.map ents' c') } := by
            intro es' ents' c' hrel
            have hpe : upd pl id p = pl := upd_eq hp
            have := Rep.change (w' := { w with heap := w.heap.setIfInBounds p.blk (.map ents' c') }) (o' := .map es' c') hr hp hgo (p' := p) (.inl rfl) ⟨rfl, rfl, rfl, Nat.le_refl _⟩ (by simp) (fun b _ hne => by simp [Ne.symm hne]) (.inl rfl) (by simpa using hlt)
              (by rw [hpe]; simp only [Array.getElem?_setIfInBounds_self_of_lt hlt]; exact entsRel_objRel g1 hrel)
            rw [hpe] at this
            exact this
          unfold updateE at he
          split at he
          · rename_i i en hfe
            split at he
            · rename_i hks
              simp at he
              subst he
              obtain ⟨cr, q1, q2⟩ := findKey_ok (P := P) hk hck w hents hfe
              cases cr with
              | none => exact q2.elim
              | some cr =>
                obtain ⟨j, cv⟩ := cr
                obtain ⟨rfl, _, q3, _⟩ := q2
                simp at q3
                obtain ⟨e', q4, q5, q6, q7⟩ := hents.at_ i en q3
                obtain ⟨q8, q9⟩ := keySame_ok hck q5 hks
                have q4' : entries[i]? = some e' := by simpa using q4
                refine ⟨_, ?_, (fin (es.set i { en with val := x }) (entries.modify i fun e => { e with key := ck, val := cx }) clock' ?_).1, (fin (es.set i { en with val := x }) (entries.modify i fun e => { e with key := ck, val := cx }) clock' ?_).2, rfl⟩
                · simp [Instr.mapUpdate, run_underlying hu, hgm, hc, q1, Instr.keyThatStays, q4', q9, hsm]
                all_goals
                  refine ⟨by simpa using hents.len, fun j e hj => ?_⟩
                  rw [List.getElem?_set] at hj
                  by_cases hij : i = j
                  · subst hij
                    have hil : i < es.length := by have := (List.getElem?_eq_some_iff.1 q3).1; exact this
                    simp [hil] at hj
                    subst hj
                    refine ⟨{ e' with key := ck, val := cx }, by simp [Array.getElem?_modify, q4'], ?_, hx, q7⟩
                    show VRel pl M en.key ck
                    rw [q8]; exact q5
                  · simp [hij] at hj
                    obtain ⟨e2, r1, r2⟩ := hents.at_ j e hj
                    exact ⟨e2, by simpa [Array.getElem?_modify, hij] using r1, r2⟩
            · simp at he
          · rename_i hfe
            simp at he
            subst he
            obtain ⟨cr, q1, q2⟩ := findKey_ok (P := P) hk hck w hents hfe
            cases cr with
            | some _ => exact q2.elim
            | none =>
              have hrel : EntsRel pl M (es ++ [{ key := k, val := x, born := clock' }]) (entries.push { key := ck, val := cx, born := clock' }).toList := by
                refine ⟨by simpa using hents.len, fun j e hj => ?_⟩
                rcases Nat.lt_or_ge j es.length with hlt2 | hge
                · rw [List.getElem?_append_left hlt2] at hj
                  obtain ⟨e2, r1, r2⟩ := hents.at_ j e hj
                  refine ⟨e2, ?_, r2⟩
                  rw [Array.toList_push, List.getElem?_append_left (by rw [← hents.len]; exact hlt2)]
                  exact r1
                · rw [List.getElem?_append_right hge] at hj
                  have hz : j - es.length = 0 := by
                    have := (List.getElem?_eq_some_iff.1 hj).1
                    simp at this
                    exact this
                  rw [hz] at hj
                  simp at hj
                  subst hj
                  refine ⟨{ key := ck, val := cx, born := clock' }, ?_, hck, hx, rfl⟩
                  have hj2 : j = entries.toList.length := by rw [← hents.len]; omega
                  rw [Array.toList_push, List.getElem?_append_right (by omega), hj2]
                  simp
              exact ⟨_, by simp [Instr.mapUpdate, run_underlying hu, hgm, hc, q1, hsm], (fin _ _ _ hrel).1, (fin _ _ _ hrel).2, rfl⟩
          · simp at he
    · simp at he
  · simp at he

theorem retU_some {o : Option AHeap} {r : ARes} (e : retU o = some r) : ∃ h, o = some h ∧ r = .val undefA h := by
  cases o with
  | none => simp [retU] at e
  | some v => simp [retU] at e; exact ⟨v, rfl, e.symm⟩

theorem updateR_args {ag : Bool} {sz : Nat} {lv : List (Nat × Nat)} {m k x : Option AV} (e : updateR ag sz lv h m k x = some h') : ∃ a b c, m = some a ∧ k = some b ∧ x = some c := by
  unfold updateR at e
  split at e
  · exact ⟨_, _, _, rfl, rfl, rfl⟩
  · simp at e

theorem ok_mapUpdate (t : TypeId) (m k x : Operand) : OkOp P G (.mapUpdate t m k x) ∧ OkOp P G (.insert t m k x) := by
  have key : ∀ (pl : Pl) (M : Mem) (A : Fr) (h : AHeap) (v : AV) (h' : AHeap) (a : Act) (w : World), GOk G pl M → Rep pl M h w → FrRel pl M A a → (opR P G (.mapUpdate t m k x)).run A h = some (.val v h') →
      Out pl M h w ((do Instr.mapUpdate t (a.eval m) (a.eval k) (a.eval x); pure .skip : Sem Next).run P w) v h' := by
    intro pl M A h v h' a w hg hr hf he
    simp only [opR] at he
    split at he
    · rename_i kt e hu
      split at he
      · rename_i ag sz lv h1 h2 h3
        obtain ⟨u, e1, e2⟩ := retU_some he
        simp at e2
        obtain ⟨rfl, rfl⟩ := e2
        obtain ⟨mv, kv, xv, e3, e4, e5⟩ := updateR_args e1
        rw [e3, e4, e5] at e1
        obtain ⟨w', q1, q2, q3, q4⟩ := updateR_ok (P := P) ⟨h1, h2, h3⟩ hu hr (opd_ok hg hf e3) (opd_ok hg hf e4) (opd_ok hg hf e5) e1
        exact ⟨pl, M, undef, w', .skip, by simp [q1], .inr ⟨rfl, rfl⟩, .tuple rfl (fun j y h => by simp at h), q2, q3, by omega⟩
      · exact (fail_run he).elim
    · exact (fail_run he).elim
  constructor <;> (intro pl M A h v h' a w dst ty pos after guard hg hr hf he; exact key pl M A h v h' a w hg hr hf he)

theorem ok_range (t : TypeId) (x : Operand) : OkOp P G (.range t x) := by
  intro pl M A h v h' a w dst ty pos after guard hg hr hf he
  simp only [opR] at he
  split at he
  · rename_i hu
    simp only [] at he
    split at he
    · rename_i s hx
      simp at he
      obtain ⟨rfl, rfl⟩ := he
      have hxv := opd_ok hg hf hx
      generalize hq : a.eval x = cx at hxv
      cases hxv
      have hal := Rep.alloc (w' := { w with heap := w.heap.push (.stringIter ⟨⟨s⟩⟩ 0) }) (o := .siter s 0) (p := ⟨w.heap.size, 0, 1, 0, 0⟩) hr rfl ⟨rfl, rfl, rfl, Nat.le_refl _⟩ rfl ⟨rfl, rfl, rfl, rfl⟩
      refine ⟨_, M, .pointer (some ⟨w.heap.size, 0, none⟩), _, .value _, ?_, .inl rfl, ?_, hal.1, hal.2, by simp [AHeap.push]⟩
      · simp only [execOp, hq, Instr.range, Sem.run_bind, run_underlying hu, Result.andThen_ok, Sem.run_pure]
        rfl
      · refine .ptr (upd_same _ _ _) (Nat.le_refl _) fun _ => ?_
        simp
    · simp at he
  · rename_i hu
    simp only [] at he
    obtain ⟨p0, e1, e2⟩ := retH_some he
    simp at e2
    obtain ⟨rfl, rfl⟩ := e2
    cases hx : (opd G x).run A with
    | none => simp [hx, rangeMapR] at e1
    | some xv =>
      have hxv := opd_ok hg hf hx
      rw [hx] at e1
      generalize hq : a.eval x = cx at hxv
      unfold rangeMapR at e1
      split at e1
      · rename_i q
        simp at q; subst q
        simp at e1; subst e1
        cases hxv
        have hal := Rep.alloc (w' := { w with heap := w.heap.push (.mapIter none 0 #[] 0) }) (o := .miter .nilm 0 []) (p := ⟨w.heap.size, 0, 1, 0, 0⟩) hr rfl ⟨rfl, rfl, rfl, Nat.le_refl _⟩ rfl ⟨rfl, rfl, .nilm, rfl, rfl, rfl⟩
        refine ⟨_, M, .pointer (some ⟨w.heap.size, 0, none⟩), _, .value _, ?_, .inl rfl, ?_, hal.1, hal.2, by simp [AHeap.push]⟩
        · simp only [execOp, hq, Instr.range, Sem.run_bind, run_underlying hu, Result.andThen_ok, Sem.run_pure]
          rfl
        · refine .ptr (upd_same _ _ _) (Nat.le_refl _) fun _ => ?_
          simp
      · rename_i id q
        simp at q; subst q
        split at e1
        · rename_i es clock hgo
          simp at e1; subst e1
          cases hxv with
          | map hp ha =>
            rename_i r p
            have ho := hr.obj id p _ hp hgo
            cases hb : w.heap[p.blk]? with
            | none => rw [hb] at ho; simp [ObjRel] at ho
            | some ob =>
              rw [hb] at ho
              cases ob <;> simp only [ObjRel] at ho
              rename_i entries clock'
              obtain ⟨g1, g2, g3, g4⟩ := ho
              have hrb := ha g1
              subst hrb
              subst g2
              have hgm : (getObj p.blk).run P w = .ok (.map entries clock') w := by simp [getObj, Sem.run, hb]
              have hne : id ≠ h.n := by have := hr.dom id p hp; omega
              have hal := Rep.alloc (w' := { w with heap := w.heap.push (.mapIter (some p.blk) clock' #[] clock') }) (o := .miter (.map id) clock' []) (p := ⟨w.heap.size, 0, 1, 0, 0⟩) hr rfl ⟨rfl, rfl, rfl, Nat.le_refl _⟩ rfl
                ⟨rfl, rfl, .map (by rw [upd_other hne]; exact hp) (fun _ => rfl), rfl, rfl, rfl⟩
              refine ⟨_, M, .pointer (some ⟨w.heap.size, 0, none⟩), _, .value _, ?_, .inl rfl, ?_, hal.1, hal.2, by simp [AHeap.push]⟩
              · simp only [execOp, hq, Instr.range, Sem.run_bind, run_underlying hu, Result.andThen_ok, Sem.run_pure, hgm]
                rfl
              · refine .ptr (upd_same _ _ _) (Nat.le_refl _) fun _ => ?_
                simp
        · simp at e1
      · simp at e1
  · exact (fail_run he).elim

/-- An iterator over a map, as it lies. -/
theorem miter_at (hr : Rep pl M h w) {id : Nat} {m : AV} {clock : Nat} {seen : List Nat} {c : Value} (hv : VRel pl M (.ptr id 0 0 0) c) (hgo : h.get id = some (.miter m clock seen)) :
    ∃ p m' seen', pl id = some p ∧ p.ep = 0 ∧ p.sz = 1 ∧ c = .pointer (some ⟨p.blk, 0, none⟩) ∧ w.heap[p.blk]? = some (.mapIter m' clock seen' clock) ∧ VRel pl M m (.map m') ∧ seen'.toList = seen := by
  cases hv with
  | ptr hp hle ha =>
    rename_i ad p
    have ho := hr.obj id p _ hp hgo
    cases hb : w.heap[p.blk]? with
    | none => rw [hb] at ho; simp [ObjRel] at ho
    | some ob =>
      rw [hb] at ho
      cases ob <;> simp only [ObjRel] at ho
      rename_i m' since seen' stepped
      obtain ⟨g1, g2, g3, g4, g5, g6⟩ := ho
      subst g4; subst g5
      have had := ha g1.symm
      simp at had
      exact ⟨p, m', seen', hp, g1, g2, by rw [had], hb, g3, g6⟩

/-- A map, as it lies. -/
theorem map_at (hr : Rep pl M h w) {id : Nat} {es : List AEnt} {clock : Nat} {m' : Option Nat} (hv : VRel pl M (.map id) (.map m')) (hgo : h.get id = some (.map es clock)) :
    ∃ r entries, m' = some r ∧ w.heap[r]? = some (.map entries clock) ∧ EntsRel pl M es entries.toList := by
  cases hv with
  | map hp ha =>
    rename_i r p
    have ho := hr.obj id p _ hp hgo
    cases hb : w.heap[p.blk]? with
    | none => rw [hb] at ho; simp [ObjRel] at ho
    | some ob =>
      rw [hb] at ho
      cases ob <;> simp only [ObjRel] at ho
      rename_i entries clock'
      obtain ⟨g1, g2, g3, g4⟩ := ho
      have hrb := ha g1
      subst hrb
      subst g2
      exact ⟨p.blk, entries, rfl, hb, ⟨by simpa using g3, fun i e hi => by simpa using g4 i e hi⟩⟩

theorem lastN_eq : ∀ (l : List Nat), lastN l = l.getLast?
  | [] => rfl
  | [_] => rfl
  | x :: y :: r => by show lastN (y :: r) = _; rw [lastN_eq (y :: r)]; simp

theorem findBorn_ents {b : Nat} : ∀ {es : List AEnt} {l : List MapEntry} {e : AEnt}, EntsRel pl M es l → findBorn b es = some e → ∃ e', l.find? (·.born == b) = some e' ∧ VRel pl M e.key e'.key ∧ VRel pl M e.val e'.val ∧ e'.born = e.born
  | [], _, _, _, h => by simp [findBorn] at h
  | x :: r, l, e, he, h => by
    obtain ⟨e', h1, k1, k2, k3⟩ := he.at_ 0 x rfl
    match l, h1, he with
    | y :: l', h1, he =>
      simp at h1; subst h1
      simp only [findBorn, beq_iff] at h
      by_cases q : x.born = b
      · simp [q] at h; subst h
        refine ⟨y, by simp [k3, q], k1, k2, k3⟩
      · simp [q] at h
        obtain ⟨e2, z1, z2⟩ := findBorn_ents (l := l') ⟨by have := he.len; simpa using this, fun i e hi => he.at_ (i + 1) e (by simpa using hi)⟩ h
        exact ⟨e2, by simp [k3, q, z1], z2⟩

theorem ok_entry (it : Operand) : OkOp P G (.entry it) := by
  intro pl M A h v h' a w dst ty pos after guard hg hr hf he
  simp only [opR] at he
  obtain ⟨v0, e1, e2⟩ := retV_some he
  simp at e2
  obtain ⟨rfl, rfl⟩ := e2
  cases hx : (opd G it).run A with
  | none => simp [hx, entryR] at e1
  | some xv =>
    have hxv := opd_ok hg hf hx
    rw [hx] at e1
    generalize hq : a.eval it = cx at hxv
    unfold entryR at e1
    split at e1
    · rename_i id q
      simp at q; subst q
      split at e1
      · rename_i m clock seen hgo
        split at e1
        · rename_i es clock' hgm
          rw [beq_iff] at e1
          by_cases hc : clock = clock'
          · subst hc
            simp at e1
            obtain ⟨p, m', seen', hp, g1, g2, rfl, hb, g3, g4⟩ := miter_at hr hxv hgo
            obtain ⟨r, entries, rfl, hbm, hen⟩ := map_at hr g3 hgm
            rw [lastN_eq] at e1
            cases hl : seen.getLast? with
            | none => rw [hl] at e1; simp [bornO, entV] at e1
            | some bn =>
              rw [hl] at e1
              simp only [bornO] at e1
              cases hfb : findBorn bn es with
              | none => rw [hfb] at e1; simp [entV] at e1
              | some e =>
                rw [hfb] at e1
                simp [entV] at e1
                obtain ⟨e', z1, z2, z3, z4⟩ := findBorn_ents hen hfb
                have hgi : (getObj p.blk).run P w = .ok (.mapIter (some r) clock seen' clock) w := by simp [getObj, Sem.run, hb]
                have hgm' : (getObj r).run P w = .ok (.map entries clock) w := by simp [getObj, Sem.run, hbm]
                have hback : seen'.back? = some bn := by rw [← hl, ← g4, Array.getLast?_toList]
                have hfind : entries.find? (·.born == bn) = some e' := by rw [← Array.find?_toList]; exact z1
                refine ⟨pl, M, .tuple #[e'.key, e'.val], w, .value _, ?_, .inl rfl, ?_, hr, Step.refl _ _ _ _, Nat.le_refl _⟩
                · simp [execOp, hq, Instr.entry, hgi, hgm', hback, hfind]
                · subst e1
                  refine .tuple rfl fun j y hj => ?_
                  match j, hj with
                  | 0, hj => simp at hj; subst hj; exact z2
                  | 1, hj => simp at hj; subst hj; exact z3
          · simp [hc] at e1
        · simp at e1
      · simp at e1
    · simp at e1

theorem ok_nextNil (it : Operand) : OkOp P G (.next it false) := by
  intro pl M A h v h' a w dst ty pos after guard hg hr hf he
  simp only [opR] at he
  obtain ⟨v0, e1, e2⟩ := retV_some he
  simp at e2
  obtain ⟨rfl, rfl⟩ := e2
  cases hx : (opd G it).run A with
  | none => simp [hx, nextNilR] at e1
  | some xv =>
    have hxv := opd_ok hg hf hx
    rw [hx] at e1
    generalize hq : a.eval it = cx at hxv
    unfold nextNilR at e1
    split at e1
    · rename_i id q
      simp at q; subst q
      split at e1
      · rename_i clock seen hgo
        simp at e1
        obtain ⟨p, m', seen', hp, g1, g2, rfl, hb, g3, g4⟩ := miter_at hr hxv hgo
        cases g3
        have hgi : (getObj p.blk).run P w = .ok (.mapIter none clock seen' clock) w := by simp [getObj, Sem.run, hb]
        refine ⟨pl, M, .tuple #[.bool false], w, .value _, ?_, .inl rfl, ?_, hr, Step.refl _ _ _ _, Nat.le_refl _⟩
        · simp [execOp, hq, Instr.next, hgi]
        · subst e1
          refine .tuple rfl fun j y hj => ?_
          match j, hj with
          | 0, hj => simp at hj; subst hj; exact .bool _
      · simp at e1
    · simp at e1

theorem ok_next (it : Operand) : OkOp P G (.next it true) := by
  intro pl M A h v h' a w dst ty pos after guard hg hr hf he
  simp only [opR] at he
  obtain ⟨p0, e1, e2⟩ := retH_some he
  simp at e2
  obtain ⟨rfl, rfl⟩ := e2
  cases hx : (opd G it).run A with
  | none => simp [hx, nextR] at e1
  | some xv =>
    have hxv := opd_ok hg hf hx
    rw [hx] at e1
    unfold nextR at e1
    split at e1
    · rename_i id q
      simp at q
      subst q
      split at e1
      · rename_i s pos' hgo
        generalize hq : a.eval it = cx at hxv
        cases hxv with
        | ptr hp hle ha =>
          rename_i ad p
          have ho := hr.obj id p _ hp hgo
          cases hb : w.heap[p.blk]? with
          | none => rw [hb] at ho; simp [ObjRel] at ho
          | some ob =>
            rw [hb] at ho
            cases ob <;> simp only [ObjRel] at ho
            rename_i s' pos2
            obtain ⟨g1, g2, g3, g4⟩ := ho
            have had := ha g1.symm
            simp at had
            subst had
            subst g3
            subst g4
            have hlt := hr.blk id p hp
            have hgm : (getObj p.blk).run P w = .ok (.stringIter ⟨⟨s⟩⟩ pos2) w := by simp [getObj, Sem.run, hb]
            have hsm : ∀ o, (setObj p.blk o).run P w = .ok () { w with heap := w.heap.setIfInBounds p.blk o } := by intro o; simp [setObj, Sem.run, hb]
            have hsize : (⟨⟨s⟩⟩ : ByteArray).size = s.length := rfl
            rw [blt_iff] at e1
            split at e1
            · rename_i hps
              simp at hps
              simp at e1
              subst e1
              have hpe : upd pl id p = pl := upd_eq hp
              have hch := Rep.change (w' := { w with heap := w.heap.setIfInBounds p.blk (.stringIter ⟨⟨s⟩⟩ (pos2 + (Utf8.decode ⟨⟨s⟩⟩ pos2).2)) }) (o' := .siter s (pos2 + (Utf8.decode ⟨s.toArray⟩ pos2).2)) hr hp hgo (p' := p) (.inl rfl) ⟨rfl, rfl, rfl, Nat.le_refl _⟩ (by simp) (fun b _ hne => by simp [Ne.symm hne]) (.inl rfl) (by simpa using hlt)
                (by rw [hpe]; simp only [Array.getElem?_setIfInBounds_self_of_lt hlt]; exact ⟨g1, g2, rfl, rfl⟩)
              rw [hpe] at hch
              refine ⟨pl, M, .tuple #[.bool true, goInt pos2, .int .i32 (Utf8.decode ⟨⟨s⟩⟩ pos2).1], _, .value _, ?_, .inl rfl, ?_, hch.1, hch.2, Nat.le_refl _⟩
              · simp [execOp, hq, Instr.next, hgm, hsize, hps, hsm]
              · refine .tuple rfl fun j y hj => ?_
                match j, hj with
                | 0, hj => simp at hj; subst hj; exact .bool _
                | 1, hj => simp at hj; subst hj; exact .int _ _
                | 2, hj => simp at hj; subst hj; exact .int _ _
            · rename_i hps
              simp at hps
              simp at e1
              subst e1
              refine ⟨pl, M, .tuple #[.bool false], w, .value _, ?_, .inl rfl, ?_, hr, Step.refl _ _ _ _, Nat.le_refl _⟩
              · simp [execOp, hq, Instr.next, hgm, hsize, show ¬ pos2 < s.length by omega]
              · refine .tuple rfl fun j y hj => ?_
                match j, hj with
                | 0, hj => simp at hj; subst hj; exact .bool _
      · simp at e1
    · simp at e1

theorem noV {o : Option AV} {f : FuncId} {args : List AV} : retV h o = some (.call f args) → False := by cases o <;> simp [retV]
theorem noH {o : Option (AV × AHeap)} {f : FuncId} {args : List AV} : retH o = some (.call f args) → False := by rcases o with _ | ⟨a, b⟩ <;> simp [retH]
theorem noU {o : Option AHeap} {f : FuncId} {args : List AV} : retU o = some (.call f args) → False := by cases o <;> simp [retU]
theorem noB {o : Option AV} {f : FuncId} {args : List AV} : boxR h o = some (.call f args) → False := by
  intro e
  unfold boxR at e
  split at e
  · split at e
    · simp at e
    · split at e <;> simp at e
  · simp at e


theorem VRels.append {as bs : List AV} {vs ws : Array Value} (h1 : VRels pl M as vs) (h2 : VRels pl M bs ws) : VRels pl M (as ++ bs) (vs ++ ws) := by
  refine ⟨by simp [h1.len, h2.len], fun j y hj => ?_⟩
  rcases Nat.lt_or_ge j as.length with hlt | hge
  · rw [List.getElem?_append_left hlt] at hj
    have := h1.at_ j y hj
    rw [Array.getD_eq_getD_getElem?] at this ⊢
    rw [Array.getElem?_append_left (by rw [← h1.len]; exact hlt)]
    exact this
  · rw [List.getElem?_append_right hge] at hj
    have := h2.at_ _ y hj
    rw [Array.getD_eq_getD_getElem?] at this ⊢
    rw [Array.getElem?_append_right (by rw [← h1.len]; exact hge), ← h1.len]
    exact this

/-- What runs before a call: the callee and its arguments. -/
theorem ok_call {o : Oper} {f : FuncId} {args : List AV} {h : AHeap} (hg : GOk G pl M) (hf : FrRel pl M A a) (he : (opR P G o.op).run A h = some (.call f args)) :
    ∃ vs, VRels pl M args vs ∧ (execOp a.eval o).run P w = (callFunc f vs).run P w := by
  obtain ⟨dst, op, ty, pos, after, guard⟩ := o
  simp only at he
  cases op
  case call c =>
    obtain ⟨callee, cargs, ts⟩ := c
    cases callee with
    | builtin b =>
      simp only [opR] at he
      unfold builtinOp at he
      repeat' (first | exact (noV he).elim | exact (noH he).elim | exact (noU he).elim | exact (noB he).elim | exact (fail_run he).elim | (simp at he; done) | (split at he) | (simp only [] at he))
    | invoke r n => exact (fail_run he).elim
    | value fo =>
      simp only [opR] at he
      cases hl : (opds G cargs.toList).run A with
      | none => simp [hl] at he
      | some l =>
        cases hfo : (opd G fo).run A with
        | none => simp [hl, hfo, callR] at he
        | some fv =>
          rw [hl, hfo] at he
          have hfv := opd_ok hg hf hfo
          have hlv := opds_ok hg hf _ _ hl
          cases fv with
          | func fn first captured =>
            cases fn with
            | func g =>
              simp [callR] at he
              obtain ⟨rfl, rfl⟩ := he
              generalize hq : a.eval fo = cf at hfv
              cases hfv with
              | func k1 k2 k3 k4 =>
                rename_i vs ws
                refine ⟨vs ++ cargs.map a.eval ++ ws, ?_, ?_⟩
                · have hl2 : VRels pl M l (cargs.map a.eval) := by
                    have e : (List.map a.eval cargs.toList).toArray = cargs.map a.eval := by apply Array.ext'; simp
                    rw [e] at hlv; exact hlv
                  rw [← List.append_assoc]
                  exact ((VRels.mk k1 k3).append hl2).append (VRels.mk k2 k4)
                · simp [execOp, resolve, hq, Deferred.ofValue, invoke]
            | _ => simp [callR] at he
          | _ => simp [callR] at he
  case build t parts =>
    simp only [opR] at he
    repeat' (first | exact (fail_run he).elim | (unfold aggR at he; split at he; split at he; exact (noV he).elim) | exact (fail_run he).elim | (split at he) | (simp only [] at he))
  case makeMap t r => cases r <;> (simp only [opR] at he; (try unfold convOp at he); (try unfold aggR at he); repeat' (first | exact (noV he).elim | exact (noH he).elim | exact (noU he).elim | exact (noB he).elim | exact (fail_run he).elim | (simp at he; done) | (split at he) | (simp only [] at he)))
  case next it b => cases b <;> (simp only [opR] at he; (try unfold convOp at he); (try unfold aggR at he); repeat' (first | exact (noV he).elim | exact (noH he).elim | exact (noU he).elim | exact (noB he).elim | exact (fail_run he).elim | (simp at he; done) | (split at he) | (simp only [] at he)))
  all_goals (simp only [opR] at he; (try unfold convOp at he); (try unfold aggR at he); repeat' (first | exact (noV he).elim | exact (noH he).elim | exact (noU he).elim | exact (noB he).elim | exact (fail_run he).elim | (simp at he; done) | (split at he) | (simp only [] at he)))

/-- Every operation. -/
theorem ok_all (op : Op) : OkOp P G op := by
  have none : opR P G op = fail → OkOp P G op := fun e pl M A h v h' a w dst ty pos after guard hg hr hf he => by rw [e] at he; exact (fail_run he).elim
  cases op
  case move x => exact ok_move x
  case assign x => exact ok_assign x
  case pick c a b => exact ok_pick c a b
  case alloc e => exact ok_alloc e
  case box e x => exact ok_box e x
  case build t p => exact ok_build t p
  case buildSlice t n p => exact ok_buildSlice t n p
  case load t a => exact ok_load t a
  case store t a x => exact ok_store t a x
  case nilCheck x => exact ok_nilCheck x
  case binOp op t x y z => exact ok_binOp op t x y z
  case unOp op t x => exact ok_unOp op t x
  case convert s d x => exact ok_convert s d x
  case makeInterface t x => exact ok_makeInterface t x
  case makeFunc f a b => exact ok_makeFunc f a b
  case makeMap t r => exact ok_makeMap t r
  case makeSlice t l c => exact ok_makeSlice t l c
  case slice t x lo hi mx => exact ok_slice t x lo hi mx
  case fieldAddr s x f => exact ok_fieldAddr s x f
  case field s x f => exact ok_field s x f
  case indexAddr t x i => exact ok_indexAddr t x i
  case index t x i => exact ok_index t x i
  case lookup t m k ok => exact ok_lookup t m k ok
  case mapUpdate t m k x => exact (ok_mapUpdate t m k x).1
  case insert t m k x => exact (ok_mapUpdate t m k x).2
  case range t x => exact ok_range t x
  case next it b =>
    cases b
    · exact ok_nextNil it
    · exact ok_next it
  case entry it => exact ok_entry it
  case extract t i => exact ok_extract t i
  case call c =>
    obtain ⟨callee, args, ts⟩ := c
    cases callee with
    | builtin b => exact ok_builtin b args ts
    | invoke r n => exact none rfl
    | value f =>
      intro pl M A h v h' a w dst ty pos after guard hg hr hf he
      simp only [opR] at he
      split at he
      · unfold callR at he; split at he <;> simp at he
      · simp at he
  all_goals exact none rfl
end
end Go.Ev

/- What a callee leaves: objects that nobody names any more are dropped; rows that nobody writes any more become plain. -/
namespace Go.Ev
open Go

section
variable {P : Program} {G : Env} {pl pl' : Pl} {M M' : Mem} {h h' : AHeap} {w w' : World} {v : AV}

theorem mx_le {a b n : Nat} : Nat.mx a b ≤ n ↔ a ≤ n ∧ b ≤ n := by
  unfold Nat.mx
  rw [ble_iff]
  by_cases h : a ≤ b <;> simp [h] <;> omega

theorem tops_le {n : Nat} : ∀ {xs : List AV}, AV.tops xs ≤ n ↔ ∀ x, x ∈ xs → x.top ≤ n
  | [] => by simp [AV.tops]
  | x :: r => by simp [AV.tops, mx_le, tops_le (xs := r)]

theorem cells_top {n : Nat} {x y : AV} (h : x.top ≤ n) (hy : y ∈ x.cells) : y.top ≤ n := by
  cases x <;> simp only [AV.cells, List.mem_singleton] at hy
  case agg cs => simp only [AV.top] at h; exact tops_le.1 h y hy
  all_goals (subst hy; exact h)

/-- The objects below 'n' alone. -/
def cutPl (pl : Pl) (n : Nat) : Pl := fun id => if id < n then pl id else none

theorem cutPl_some {n id : Nat} {p : Place} : cutPl pl n id = some p ↔ id < n ∧ pl id = some p := by
  unfold cutPl
  by_cases h : id < n <;> simp [h]

/-- A value names objects below 'n' alone: it is the same wherever these lie alike. -/
theorem VRel.agree {n : Nat} {x : Value} (h : VRel pl M v x) (ht : v.top ≤ n) (ha : ∀ id p, id < n → pl id = some p → pl' id = some p) (hm : MExt M M') : VRel pl' M' v x := by
  have elems : ∀ {xs : List AV} {i j : Nat} {x y : AV}, AV.tops xs ≤ n → xs[i]? = some x → x.cells[j]? = some y → y.top ≤ n := by
    intro xs i j x y h1 h2 h3
    exact cells_top (tops_le.1 h1 x (List.mem_of_getElem? h2)) (List.mem_of_getElem? h3)
  induction h with
  | bool b => exact .bool b
  | int k n => exact .int k n
  | str s => exact .str s
  | nilp => exact .nilp
  | ptr hp hle hh => simp only [AV.top] at ht; exact .ptr (ha _ _ (by omega) hp) hle hh
  | pptr hm' hs hi hc ih =>
    simp only [AV.top] at ht
    exact .pptr ⟨hm'.1, hm _ _ hm'.2.1, hm'.2.2⟩ hs hi (fun i x j y h1 h2 => ih i x j y h1 h2 (elems ht h1 h2))
  | nils => exact .nils
  | slice hp hle hl hk hh => simp only [AV.top] at ht; exact .slice (ha _ _ (by omega) hp) hle hl hk hh
  | ps hl ht' hm' hs hc ih =>
    simp only [AV.top] at ht
    exact .ps hl ht' (fun h => ⟨(hm' h).1, hm _ _ (hm' h).2.1, (hm' h).2.2⟩) hs (fun i x j y h1 h2 => ih i x j y h1 h2 (elems ht h1 h2))
  | lsn => exact .lsn
  | lsp _ ht0 ih => exact .lsp (ih (by simp only [AV.top]; omega)) ht0
  | nilm => exact .nilm
  | map hp hh => simp only [AV.top] at ht; exact .map (ha _ _ (by omega) hp) hh
  | func h1 h2 _ _ ih1 ih2 =>
    simp only [AV.top, mx_le] at ht
    exact .func h1 h2 (fun j y hj => ih1 j y hj (tops_le.1 ht.1 y (List.mem_of_getElem? hj))) (fun j y hj => ih2 j y hj (tops_le.1 ht.2 y (List.mem_of_getElem? hj)))
  | nilf => exact .nilf
  | iface _ ih => simp only [AV.top] at ht; exact .iface (ih ht)
  | nili => exact .nili
  | agg h1 h2 _ ih => simp only [AV.top] at ht; exact .agg h1 h2 (fun j y hj => ih j y hj (tops_le.1 ht y (List.mem_of_getElem? hj)))
  | tuple h1 _ ih => simp only [AV.top] at ht; exact .tuple h1 (fun j y hj => ih j y hj (tops_le.1 ht y (List.mem_of_getElem? hj)))

theorem entTops_le {n : Nat} : ∀ {es : List AEnt}, entTops es ≤ n ↔ ∀ e, e ∈ es → e.key.top ≤ n ∧ e.val.top ≤ n
  | [] => by simp [entTops]
  | e :: r => by simp [entTops, mx_le, entTops_le (es := r)]

theorem ObjRel.agree {n : Nat} {p : Place} {o : AObj} {x : Option Obj} (h : ObjRel pl M p o x) (ht : o.top ≤ n) (ha : ∀ id p, id < n → pl id = some p → pl' id = some p) (hm : MExt M M') : ObjRel pl' M' p o x := by
  match o, x with
  | .dead, _ => trivial
  | .row sz op ep xs, some (.cells c t fr) =>
    obtain ⟨h1, h2, h3, h4, h5, h6, h7, h8⟩ := h
    simp only [AObj.top] at ht
    exact ⟨h1, h2, h3, h4, h5, h6, h7, ⟨h8.fit, h8.elem, fun i x j y k1 k2 => (h8.cell i x j y k1 k2).agree (cells_top (tops_le.1 ht x (List.mem_of_getElem? k1)) (List.mem_of_getElem? k2)) ha hm⟩⟩
  | .map es clock, some (.map entries clock') =>
    obtain ⟨h1, h2, h3, h4⟩ := h
    simp only [AObj.top] at ht
    refine ⟨h1, h2, h3, fun i e hi => ?_⟩
    obtain ⟨e', k1, k2, k3, k4⟩ := h4 i e hi
    have := entTops_le.1 ht e (List.mem_of_getElem? hi)
    exact ⟨e', k1, k2.agree this.1 ha hm, k3.agree this.2 ha hm, k4⟩
  | .siter s pos, some (.stringIter s' pos') => exact h
  | .miter m clock seen, some (.mapIter m' since seen' stepped) => simp only [AObj.top] at ht; exact ⟨h.1, h.2.1, h.2.2.1.agree ht ha hm, h.2.2.2⟩

/-- The blocks of the objects from 'n' on, as they stand, are written no more. -/
noncomputable def dropM (pl : Pl) (M : Mem) (w : World) (n : Nat) : Mem := fun b =>
  match M b with
  | some c => some c
  | none =>
    open Classical in
    if ∃ id p, n ≤ id ∧ pl id = some p ∧ p.blk = b then
      match w.heap[b]? with
      | some (.cells c _ _) => some c
      | _ => none
    else none

theorem dropM_ext (n : Nat) : MExt M (dropM pl M w n) := fun b c hb => by simp [dropM, hb]

theorem dropM_some {n b : Nat} {c : Array Value} (hb : dropM pl M w n b = some c) : M b = some c ∨ ((∃ id p, n ≤ id ∧ pl id = some p ∧ p.blk = b) ∧ ∃ t fr, w.heap[b]? = some (.cells c t fr)) := by
  unfold dropM at hb
  cases hM : M b with
  | some c' => rw [hM] at hb; exact .inl hb
  | none =>
    rw [hM] at hb
    simp only [] at hb
    split at hb
    · rename_i hx
      refine .inr ⟨hx, ?_⟩
      cases hw : w.heap[b]? with
      | none => simp [hw] at hb
      | some o =>
        rw [hw] at hb
        cases o <;> simp at hb
        subst hb
        exact ⟨_, _, rfl⟩
    · simp at hb

theorem dropM_at (hr : Rep pl M h w) {n id : Nat} {p : Place} {c : Array Value} {t : TypeId} {fr : Nat × Nat} (hid : n ≤ id) (hp : pl id = some p) (hw : w.heap[p.blk]? = some (.cells c t fr)) : dropM pl M w n p.blk = some c := by
  unfold dropM
  rw [hr.sep id p hp]
  simp only []
  rw [if_pos ⟨id, p, hid, hp, rfl⟩, hw]

/-- The state with the objects from 'n' on dropped. -/
theorem Rep.dropped (hr : Rep pl M h w) {n : Nat} (hn : n ≤ h.n) (hc : ∀ id o, id < n → h.get id = some o → o.top ≤ n) : Rep (cutPl pl n) (dropM pl M w n) (h.cut n) w := by
  have ag : ∀ id p, id < n → pl id = some p → cutPl pl n id = some p := fun id p h1 h2 => cutPl_some.2 ⟨h1, h2⟩
  refine ⟨fun id p hp => (cutPl_some.1 hp).1, fun id p o hp hg => ?_, fun id p hp => hr.blk id p (cutPl_some.1 hp).2, fun id id' p p' h1 h2 h3 => hr.inj id id' p p' (cutPl_some.1 h1).2 (cutPl_some.1 h2).2 h3, fun b c hb => ?_, fun id p hp => ?_⟩
  · obtain ⟨h1, h2⟩ := cutPl_some.1 hp
    obtain ⟨h3, h4⟩ := AHeap.get_cut hn hg
    exact (hr.obj id p o h2 h4).agree (hc id o h3 h4) ag (dropM_ext n)
  · rcases dropM_some hb with hb | ⟨_, h2⟩
    · exact hr.imm b c hb
    · exact h2
  · obtain ⟨h1, h2⟩ := cutPl_some.1 hp
    cases hd : dropM pl M w n p.blk with
    | none => rfl
    | some c =>
      rcases dropM_some hd with hb | ⟨⟨id', p', k1, k2, k3⟩, _⟩
      · rw [hr.sep id p h2] at hb; cases hb
      · have := hr.inj id id' p p' h2 k2 k3.symm; omega

theorem cleanTo_ok {n : Nat} : ∀ (k : Nat), cleanTo h n k = true → ∀ id o, id < k → h.get id = some o → o.top ≤ n
  | 0, _, id, o, hid, _ => by omega
  | k + 1, hc, id, o, hid, hg => by
    unfold cleanTo at hc
    have key : cleanTo h n k = true ∧ ∀ o, h.get k = some o → o.top ≤ n := by
      cases hk : h.get k with
      | none => rw [hk] at hc; exact ⟨hc, fun o h => by cases h⟩
      | some o' =>
        rw [hk] at hc
        simp only [ble_iff] at hc
        by_cases ht : o'.top ≤ n
        · simp [ht] at hc; exact ⟨hc, fun o h => by cases h; exact ht⟩
        · simp [ht] at hc
    rcases Nat.lt_or_ge id k with hlt | hge
    · exact cleanTo_ok k key.1 id o hlt hg
    · have : id = k := by omega
      subst this
      exact key.2 o hg

theorem mapO_some {f : AV → Option AV} : ∀ {xs ys : List AV}, mapO f xs = some ys → xs.length = ys.length ∧ ∀ (i : Nat) (y : AV), ys[i]? = some y → ∃ x, xs[i]? = some x ∧ f x = some y
  | [], ys, e => by simp [mapO] at e; subst e; exact ⟨rfl, fun i y h => by simp at h⟩
  | x :: r, ys, e => by
    simp only [mapO] at e
    cases hx : f x with
    | none => simp [hx] at e
    | some y =>
      cases hr : mapO f r with
      | none => simp [hx, hr] at e
      | some zs =>
        simp [hx, hr] at e
        subst e
        obtain ⟨h1, h2⟩ := mapO_some hr
        refine ⟨by simp [h1], fun i u hu => ?_⟩
        match i, hu with
        | 0, hu => simp at hu; subst hu; exact ⟨x, rfl, hx⟩
        | i + 1, hu => simpa using h2 i u (by simpa using hu)

theorem keepLow_some {n : Nat} {z y : AV} (e : keepLow n z = some y) : y = z ∧ z.top ≤ n := by
  unfold keepLow at e
  rw [ble_iff] at e
  by_cases h : z.top ≤ n <;> simp [h] at e
  exact ⟨e.symm, h⟩

theorem frz_shape {n k : Nat} {x y : AV} (e : frz h k n x = some y) : (scalB x = true → scalB y = true) ∧ (∀ cs, x = .agg cs → ∃ ds, y = .agg ds ∧ mapO (frz h (k - 1) n) cs = some ds) ∧ (flatB x = true → flatB y = true) := by
  cases k with
  | zero => simp [frz] at e
  | succ k =>
    have own : ∀ z : AV, keepLow n z = some y → y = z := fun z hz => (keepLow_some hz).1
    cases x <;> simp only [frz] at e
    case slice id ep off len cap =>
      refine ⟨fun _ => ?_, fun cs h => (by cases h), fun _ => ?_⟩ <;>
      · split at e
        · simp at e; subst e; rfl
        · split at e
          · split at e
            · split at e
              · simp at e; subst e; rfl
              · simp at e
            · simp at e
          · simp at e
    case agg cs =>
      split at e
      · rename_i ds hd
        simp at e
        subst e
        exact ⟨fun h => by simp [scalB] at h, fun cs' h => by cases h; exact ⟨ds, rfl, hd⟩, fun _ => rfl⟩
      · simp at e
    case tuple cs => exact ⟨fun h => by simp [scalB] at h, fun cs' h => (by cases h), fun h => by simp [flatB] at h⟩
    case func fn a b =>
      split at e
      · simp at e; subst e; exact ⟨fun _ => rfl, fun cs h => (by cases h), fun _ => rfl⟩
      · simp at e
    case iface t v =>
      split at e
      · simp at e; subst e; exact ⟨fun _ => rfl, fun cs h => (by cases h), fun _ => rfl⟩
      · simp at e
    all_goals (have := own _ e; subst this; exact ⟨fun h => h, fun cs h => (by cases h), fun h => h⟩)

/-- The cells of a value made plain. -/
theorem frz_cells {n k : Nat} {x y : AV} (e : frz h k n x = some y) (hf : flatB x = true) (hs : Sc x) : y.cells.length = x.cells.length ∧ Sc y ∧ ∀ (j : Nat) (u : AV), y.cells[j]? = some u → ∃ z k', x.cells[j]? = some z ∧ frz h k' n z = some u := by
  obtain ⟨h1, h2, h3⟩ := frz_shape e
  rcases flat_cases x hf with ⟨cs, rfl⟩ | ⟨hsx, hcx⟩
  · obtain ⟨ds, rfl, hd⟩ := h2 cs rfl
    obtain ⟨g1, g2⟩ := mapO_some hd
    refine ⟨g1.symm, fun u hu => ?_, fun j u hu => ?_⟩
    · obtain ⟨j, hj⟩ := List.getElem?_of_mem hu
      obtain ⟨z, k1, k2⟩ := g2 j u hj
      exact (frz_shape k2).1 (hs z (List.mem_of_getElem? k1))
    · obtain ⟨z, k1, k2⟩ := g2 j u hu
      exact ⟨z, _, k1, k2⟩
  · have hsy := h1 hsx
    have hcy : y.cells = [y] := by cases y <;> first | rfl | (simp [scalB] at hsy)
    rw [hcx, hcy]
    refine ⟨rfl, fun u hu => ?_, fun j u hu => ?_⟩
    · rw [hcy] at hu; simp at hu; subst hu; exact hsy
    · match j, hu with
      | 0, hu => simp at hu; subst hu; exact ⟨x, k, rfl, e⟩

theorem cutPl_ext_low {n : Nat} : ∀ id p, id < n → pl id = some p → cutPl pl n id = some p := fun id p h1 h2 => cutPl_some.2 ⟨h1, h2⟩

/-- A value made plain stands for what it stood for. -/
theorem frz_ok (hr : Rep pl M h w) {n : Nat} {Md : Mem} (hmd : MExt M Md)
    (hd : ∀ id p sz op ep xs c t fr, n ≤ id → pl id = some p → h.get id = some (.row sz op ep xs) → w.heap[p.blk]? = some (.cells c t fr) → Md p.blk = some c) :
    ∀ (k : Nat) (v v' : AV) (x : Value), VRel pl M v x → frz h k n v = some v' → VRel (cutPl pl n) Md v' x
  | 0, v, v', x, _, e => by simp [frz] at e
  | k + 1, v, v', x, hv, e => by
    have low : ∀ {z : AV}, VRel pl M z x → keepLow n z = some v' → VRel (cutPl pl n) Md v' x := by
      intro z hz hk
      obtain ⟨rfl, h2⟩ := keepLow_some hk
      exact hz.agree h2 cutPl_ext_low hmd
    cases v <;> simp only [frz] at e
    case slice id ep off len cap =>
      rw [blt_iff] at e
      by_cases hid : id < n
      · simp [hid] at e
        subst e
        exact hv.agree (n := n) (by simp only [AV.top]; omega) cutPl_ext_low hmd
      · simp only [hid, decide_false] at e
        split at e
        · rename_i sz op ep' xs hgo
          rw [beq_iff] at e
          by_cases hep : ep = ep'
          · simp only [hep, decide_true] at e
            split at e
            · rename_i ys hys
              simp at e
              subst e
              cases hv with
              | slice hp hle hl hk ha =>
                rename_i cap' a p
                have ho := hr.obj id p _ hp hgo
                cases hb : w.heap[p.blk]? with
                | none => rw [hb] at ho; simp [ObjRel] at ho
                | some ob =>
                  rw [hb] at ho
                  cases ob <;> simp only [ObjRel] at ho
                  rename_i c t fr
                  obtain ⟨g1, g2, g3, g4, g5, g6, g7, g8⟩ := ho
                  obtain ⟨q1, q2, q3, q4, q5⟩ := ha (by omega)
                  obtain ⟨m1, m2⟩ := mapO_some hys
                  have hlen : ys.length = len := by
                    rw [← m1]; simp; omega
                  have src : ∀ (i : Nat) (y : AV), ys[i]? = some y → ∃ x, xs[off + i]? = some x ∧ i < len ∧ frz h k n x = some y := by
                    intro i y hi
                    obtain ⟨x, k1, k2⟩ := m2 i y hi
                    have hil : i < ys.length := (List.getElem?_eq_some_iff.1 hi).1
                    rw [List.getElem?_take_of_lt (by omega), List.getElem?_drop] at k1
                    exact ⟨x, k1, by omega, k2⟩
                  have cells : ∀ (i : Nat) (x y : AV), xs[off + i]? = some x → frz h k n x = some y → flatB x = true := by
                    intro i x y h1 h2
                    have he := (g8.elem x (List.mem_of_getElem? h1)).2
                    cases x <;> first | rfl | skip
                    exact absurd (he _ (by simp [AV.cells]; rfl)) (by simp [scalB])
                  have hys0 : ys ≠ [] → a = ⟨p.blk, off * p.sz, none⟩ := by
                    intro hne
                    rcases q1 with hc0 | hc1
                    · have : ys.length ≠ 0 := fun h0 => hne (List.eq_nil_of_length_eq_zero h0)
                      omega
                    · exact hc1
                  have hfit : off * p.sz + ys.length * p.sz ≤ c.size := by
                    rw [← g4]
                    calc off * p.sz + ys.length * p.sz = (off + ys.length) * p.sz := by rw [Nat.add_mul]
                      _ ≤ (off + cap') * p.sz := Nat.mul_le_mul_right _ (by omega)
                      _ ≤ p.tot := q2
                  rw [← hlen]
                  refine VRel.ps (sz := p.sz) (c := c) (by omega) (fun ht => ?_) (fun hne => ?_) (fun y hy => ?_) (fun i y j u hi hu => ?_)
                  · cases cap with
                    | none => simp [optB] at ht
                    | some cc => simp [optB, beq_iff] at ht; rw [hk cc rfl]; omega
                  · rw [hys0 hne]
                    exact ⟨rfl, hd _ _ _ _ _ _ _ _ _ (by omega) hp hgo hb, hfit, by omega⟩
                  · obtain ⟨i, hi⟩ := List.getElem?_of_mem hy
                    obtain ⟨x, k1, k2, k3⟩ := src i y hi
                    have he := g8.elem x (List.mem_of_getElem? k1)
                    obtain ⟨f1, f2, f3⟩ := frz_cells k3 (cells i x y k1 k3) he.2
                    exact ⟨by rw [f1, he.1]; exact g2.symm, f2⟩
                  · have hne : ys ≠ [] := fun h0 => by rw [h0] at hi; simp at hi
                    rw [hys0 hne]
                    obtain ⟨x, k1, k2, k3⟩ := src i y hi
                    have he := g8.elem x (List.mem_of_getElem? k1)
                    have hfl := cells i x y k1 k3
                    rcases flat_cases x hfl with ⟨cs, rfl⟩ | ⟨hsx, hcx⟩
                    · obtain ⟨ds, rfl, hds⟩ := (frz_shape k3).2.1 cs rfl
                      obtain ⟨z1, z2⟩ := mapO_some hds
                      obtain ⟨z, y1, y2⟩ := z2 j u hu
                      have hz := g8.cell _ _ j z k1 y1
                      have := frz_ok hr hmd hd (k - 1) z u _ hz y2
                      simp only [Nat.zero_add] at this
                      rw [g2]
                      simpa [Nat.add_mul, Nat.add_assoc] using this
                    · have hsy := (frz_shape k3).1 hsx
                      have hcy : y.cells = [y] := by cases y <;> first | rfl | (simp [scalB] at hsy)
                      rw [hcy] at hu
                      match j, hu with
                      | 0, hu =>
                        simp at hu
                        subst hu
                        have hz := g8.cell _ _ 0 x k1 (by rw [hcx]; rfl)
                        have := frz_ok hr hmd hd k x y _ hz k3
                        rw [g2]
                        simpa [Nat.add_mul, Nat.add_assoc] using this
            · simp at e
          · simp [hep] at e
        · simp at e
    case agg cs =>
      split at e
      · rename_i ds hds
        simp at e
        subst e
        cases hv with
        | agg h1 h2 h3 =>
          obtain ⟨m1, m2⟩ := mapO_some hds
          refine .agg (by rw [← m1]; exact h1) (fun y hy => ?_) (fun j y hj => ?_)
          · obtain ⟨i, hi⟩ := List.getElem?_of_mem hy
            obtain ⟨x, k1, k2⟩ := m2 i y hi
            exact (frz_shape k2).1 (h2 x (List.mem_of_getElem? k1))
          · obtain ⟨x, k1, k2⟩ := m2 j y hj
            exact frz_ok hr hmd hd k x y _ (h3 j x k1) k2
      · simp at e
    case tuple cs =>
      split at e
      · rename_i ds hds
        simp at e
        subst e
        cases hv with
        | tuple h1 h3 =>
          obtain ⟨m1, m2⟩ := mapO_some hds
          refine .tuple (by rw [← m1]; exact h1) (fun j y hj => ?_)
          obtain ⟨x, k1, k2⟩ := m2 j y hj
          exact frz_ok hr hmd hd k x y _ (h3 j x k1) k2
      · simp at e
    case func fn a b =>
      split at e
      · rename_i a' b' ha hb
        simp at e
        subst e
        cases hv with
        | func h1 h2 h3 h4 =>
          obtain ⟨m1, m2⟩ := mapO_some ha
          obtain ⟨n1, n2⟩ := mapO_some hb
          refine .func (by rw [← m1]; exact h1) (by rw [← n1]; exact h2) (fun j y hj => ?_) (fun j y hj => ?_)
          · obtain ⟨x, k1, k2⟩ := m2 j y hj
            exact frz_ok hr hmd hd k x y _ (h3 j x k1) k2
          · obtain ⟨x, k1, k2⟩ := n2 j y hj
            exact frz_ok hr hmd hd k x y _ (h4 j x k1) k2
      · simp at e
    case iface t u =>
      split at e
      · rename_i u' hu
        simp at e
        subst e
        cases hv with
        | iface h1 => exact .iface (frz_ok hr hmd hd k u u' _ h1 hu)
      · simp at e
    all_goals exact low hv e

end
end Go.Ev
