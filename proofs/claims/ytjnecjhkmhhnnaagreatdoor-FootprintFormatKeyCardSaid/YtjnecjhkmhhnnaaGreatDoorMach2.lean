/- An abstract machine for closed runs and for walks, proved sound against the model: part 2 of 8. No conditions. -/
import Derived.Test.YtjnecjhkmhhnnaaGreatDoorMach1
import Derived.Laws.StructEq
import Derived.WalkLawsBesides
import Derived.WalkSpells
import Derived.IntWalk
import Derived.Laws.BytesString
import Derived.Lib.ConvBytes

/- Indexes, slices of slices and texts. -/
namespace Go.Ev
open Go

section
variable {P : Program} {G : Env} {pl : Pl} {M : Mem} {h h' : AHeap} {w w' : World} {v : AV} {A : Fr} {a : Act}

theorem natOf_ok {x : AV} {cx : Value} {n : Nat} (hx : VRel pl M x cx) (e : natOf x = some n) : ∃ k, cx = .int k (n : Int) := by
  obtain ⟨k, rfl⟩ := natOf_some e
  cases hx
  exact ⟨k, rfl⟩

theorem rowOf_some {s id ep : Nat} {xs : List AV} (e : rowOf s h id ep = some xs) : ∃ op, h.get id = some (.row s op ep xs) := by
  unfold rowOf at e
  split at e
  · rename_i sz op ep' ys hg
    rw [beq_iff, beq_iff] at e
    by_cases h1 : sz = s
    · by_cases h2 : ep = ep'
      · simp [h1, h2] at e; subst e; subst h1; subst h2; exact ⟨op, hg⟩
      · simp [h2] at e
    · simp [h1] at e
  · simp at e

/-- What a slice of a row at hand is. -/
theorem slice_at (hr : Rep pl M h w) {id ep off len sz : Nat} {cap : Option Nat} {op : Bool} {xs : List AV} {cx : Value} (hx : VRel pl M (.slice id ep off len cap) cx)
    (hg : h.get id = some (.row sz op ep xs)) : ∃ p c t ad cap', pl id = some p ∧ cx = .slice (some ad) len cap' ∧ w.heap[p.blk]? = some (.cells c t (0, 0)) ∧
      p.ep = ep ∧ p.sz = sz ∧ p.n = xs.length ∧ p.tot = c.size ∧ 0 < sz ∧ (op = false → c.size = xs.length * sz) ∧ InMem pl M c 0 sz xs ∧
      len ≤ cap' ∧ (∀ k, cap = some k → cap' = k) ∧ (cap' = 0 ∨ ad = ⟨p.blk, off * sz, none⟩) ∧ (off + cap') * sz ≤ c.size ∧ off + len ≤ xs.length ∧ (cap = none → xs.length ≤ off + cap') ∧ (∀ k, cap = some k → off + k ≤ xs.length) := by
  cases hx with
  | slice hp hle hl hk ha =>
    rename_i cap' ad p
    have ho := hr.obj id p _ hp hg
    cases hb : w.heap[p.blk]? with
    | none => rw [hb] at ho; simp [ObjRel] at ho
    | some ob =>
      rw [hb] at ho
      cases ob <;> simp only [ObjRel] at ho
      rename_i c t fr
      obtain ⟨h1, h2, h3, h4, h5, h6, h7, h8⟩ := ho
      subst h5
      obtain ⟨a1, a2, a3, a4, a5⟩ := ha h1.symm
      rw [h2] at a1 a2
      rw [h4] at a2
      rw [h3] at a3 a4 a5
      exact ⟨p, c, t, ad, cap', hp, rfl, hb, h1, h2, h3, h4, h6, h7, h8, hl, hk, a1, a2, a3, a4, a5⟩

theorem indexArr_ok {n s : Nat} {x ix v : AV} {cx ci : Value} (hx : VRel pl M x cx) (hi : VRel pl M ix ci) {t e : TypeId} (ht : P.underlying t = some (.array n e)) (hs : szOf P e = some s)
    (he : indexArr n s (some x) (some ix) = some v) (w : World) : ∃ ad, (Instr.indexAt t cx ci).run P w = .ok (.pointer (some ad)) w ∧ VRel pl M v (.pointer (some ad)) := by
  simp only [indexArr] at he
  cases hn : natOf ix with
  | none => simp [hn] at he
  | some i =>
    rw [hn] at he
    simp only [blt_iff] at he
    by_cases hlt : i < n
    · simp [hlt] at he
      obtain ⟨k, rfl⟩ := natOf_ok hi hn
      obtain ⟨ad, rfl, k2⟩ := offset_ok he hx
      refine ⟨_, ?_, k2⟩
      simp [Instr.indexAt, asIntOf, run_underlying ht, Instr.sureAddr, run_sizeOf hs, hlt]
    · simp [hlt] at he

theorem indexSl_ok (hr : Rep pl M h w) {s : Nat} {x ix v : AV} {cx ci : Value} (hx : VRel pl M x cx) (hi : VRel pl M ix ci) {t e : TypeId} (ht : P.underlying t = some (.slice e)) (hs : szOf P e = some s)
    (he : indexSl s h (some x) (some ix) = some v) : ∃ ad, (Instr.indexAt t cx ci).run P w = .ok (.pointer (some ad)) w ∧ VRel pl M v (.pointer (some ad)) := by
  unfold indexSl at he
  split at he
  · rename_i id ep off len cap ix' e0 e1
    simp at e0 e1; subst e0; subst e1
    split at he
    · rename_i i xs hn hrow
      rw [blt_iff] at he
      by_cases hlt : i < len
      · simp [hlt] at he
        subst he
        obtain ⟨op, hg⟩ := rowOf_some hrow
        obtain ⟨k, rfl⟩ := natOf_ok hi hn
        obtain ⟨p, c, t', ad, cap', q1, rfl, q3, q4, q5, q6, q7, q8, q9, q10, q11, q12, q13, q14, q15, q16, q17⟩ := slice_at hr hx hg
        have had : ad = ⟨p.blk, off * s, none⟩ := by
          rcases q13 with h0 | h0
          · omega
          · exact h0
        subst had
        refine ⟨⟨p.blk, off * s + i * s, none⟩, ?_, .ptr q1 (by omega) fun _ => ?_⟩
        · simp [Instr.indexAt, asIntOf, run_underlying ht, run_sizeOf hs, hlt, Addr.add_lit]
        · rw [q5, Nat.add_zero, Nat.add_mul]
      · simp [hlt] at he
    · simp at he
  · rename_i xs tight ix' e0 e1
    simp at e0 e1; subst e0; subst e1
    split at he
    · rename_i i hn
      rw [nth_eq] at he
      cases hxi : xs[i]? with
      | none => simp [hxi] at he
      | some y =>
        rw [hxi] at he
        simp only [beq_iff] at he
        by_cases hy : y.cells.length = s
        · simp [hy] at he
          subst he
          obtain ⟨k, rfl⟩ := natOf_ok hi hn
          have hilt : i < xs.length := (List.getElem?_eq_some_iff.1 hxi).1
          cases hx with
          | ps hl htt hm hs2 hc =>
            rename_i ad cap sz c
            have hne : xs ≠ [] := by intro e; subst e; simp at hilt
            have hsz : sz = s := by rw [← hy]; exact ((hs2 y (List.mem_of_getElem? hxi)).1).symm
            subst hsz
            obtain ⟨hspot, hm2⟩ := hm hne
            refine ⟨⟨ad.block, ad.off + i * sz + 0, none⟩, ?_, .pptr ⟨hspot, hm2⟩ hs2 hilt hc⟩
            have had : ad = ⟨ad.block, ad.off, none⟩ := by cases ad; simp at hspot; subst hspot; rfl
            rw [had]
            simp [Instr.indexAt, asIntOf, run_underlying ht, run_sizeOf hs, hilt, Addr.add_lit]
        · simp [hy] at he
    · simp at he
  · simp at he

theorem indexAny_ok (hr : Rep pl M h w) {s : Nat} {x ix v : AV} {cx ci : Value} (hx : VRel pl M x cx) (hi : VRel pl M ix ci) {t e : TypeId} (ht : P.underlying t = some (.slice e)) (hs : szOf P e = some s)
    (he : indexAny s h (some x) (some ix) = some v) : ∃ ad, (Instr.indexAt t cx ci).run P w = .ok (.pointer (some ad)) w ∧ VRel pl M v (.pointer (some ad)) := by
  unfold indexAny at he
  split at he
  · rename_i xs e0
    simp at e0
    subst e0
    cases hx with
    | lsn =>
      unfold indexSl at he
      simp only [nth] at he
      split at he <;> simp at he
    | lsp hx _ => exact indexSl_ok hr hx hi ht hs he
  · exact indexSl_ok hr hx hi ht hs he

theorem ok_indexAddr (t : TypeId) (x i : Operand) : OkOp P G (.indexAddr t x i) := by
  intro pl M A h v h' a w dst ty pos after guard hg hr hf he
  simp only [opR] at he
  cases hu : P.underlying t with
  | none => simp only [hu] at he; exact (fail_run he).elim
  | some d =>
    rw [hu] at he
    cases d <;> try exact (fail_run he).elim
    case array n e =>
      cases hs : szOf P e with
      | none => simp only [hs] at he; exact (fail_run he).elim
      | some s =>
        cases s with
        | zero => simp only [hs] at he; exact (fail_run he).elim
        | succ s =>
          simp only [hs] at he
          obtain ⟨u, e1, e2⟩ := retV_some he
          simp at e2
          obtain ⟨rfl, rfl⟩ := e2
          cases hx : (opd G x).run A with
          | none =>
            cases hi : (opd G i).run A with
            | none => simp [hx, hi, indexArr] at e1
            | some iv =>
              simp only [hx, hi, indexArr, offset] at e1
              split at e1 <;> (try split at e1) <;> simp at e1
          | some xv =>
            cases hi : (opd G i).run A with
            | none => simp [hx, hi, indexArr] at e1
            | some iv =>
              rw [hx, hi] at e1
              obtain ⟨ad, k1, k2⟩ := indexArr_ok (P := P) (opd_ok hg hf hx) (opd_ok hg hf hi) hu hs e1 w
              simpa [execOp, k1] using Out.pure hr k2
    case slice e =>
      cases hs : szOf P e with
      | none => simp only [hs] at he; exact (fail_run he).elim
      | some s =>
        cases s with
        | zero => simp only [hs] at he; exact (fail_run he).elim
        | succ s =>
          simp only [hs] at he
          obtain ⟨u, e1, e2⟩ := retV_some he
          simp at e2
          obtain ⟨rfl, rfl⟩ := e2
          cases hx : (opd G x).run A with
          | none => simp [hx, indexAny, indexSl] at e1
          | some xv =>
            cases hi : (opd G i).run A with
            | none => rw [hx, hi] at e1; cases xv <;> simp [indexAny, indexSl] at e1
            | some iv =>
              rw [hx, hi] at e1
              obtain ⟨ad, k1, k2⟩ := indexAny_ok (P := P) hr (opd_ok hg hf hx) (opd_ok hg hf hi) hu hs e1
              simpa [execOp, k1] using Out.pure hr k2

theorem ok_index (t : TypeId) (x i : Operand) : OkOp P G (.index t x i) := by
  intro pl M A h v h' a w dst ty pos after guard hg hr hf he
  simp only [opR] at he
  cases hu : P.underlying t with
  | none => simp only [hu] at he; exact (fail_run he).elim
  | some d =>
    rw [hu] at he
    cases d <;> try exact (fail_run he).elim
    case array n e =>
      cases h1 : isAggB P e with
      | none => simp only [h1] at he; exact (fail_run he).elim
      | some ag =>
        cases h2 : szOf P e with
        | none => simp only [h1, h2] at he; exact (fail_run he).elim
        | some s =>
          simp only [h1, h2] at he
          obtain ⟨u, e1, e2⟩ := retV_some he
          simp at e2
          obtain ⟨rfl, rfl⟩ := e2
          cases hx : (opd G x).run A with
          | none => simp [hx, atArr] at e1
          | some xv =>
            cases hi : (opd G i).run A with
            | none => rw [hx, hi] at e1; cases xv <;> simp [atArr] at e1
            | some iv =>
              have hxv := opd_ok hg hf hx
              have hiv := opd_ok hg hf hi
              rw [hx, hi] at e1
              cases xv <;> simp [atArr] at e1
              rename_i cs
              cases hn : natOf iv with
              | none => simp [hn] at e1
              | some k =>
                rw [hn] at e1
                simp only [blt_iff] at e1
                by_cases hlt : k < n
                · simp [hlt] at e1
                  obtain ⟨kd, hci⟩ := natOf_ok hiv hn
                  generalize hq : a.eval x = cx at hxv
                  cases hxv with
                  | agg g1 g2 g3 =>
                    obtain ⟨cv, k1, k2⟩ := run_part (P := P) ⟨g1, g3⟩ g2 h1 h2 e1
                    simpa [execOp, hq, hci, Instr.index, asIntOf, run_underlying hu, run_sizeOf h2, hlt, k1] using Out.pure hr k2
                · simp [hlt] at e1
    case string =>
      obtain ⟨u, e1, e2⟩ := retV_some he
      simp at e2
      obtain ⟨rfl, rfl⟩ := e2
      cases hx : (opd G x).run A with
      | none => simp [hx, atStr] at e1
      | some xv =>
        cases hi : (opd G i).run A with
        | none => rw [hx, hi] at e1; cases xv <;> simp [atStr] at e1
        | some iv =>
          have hxv := opd_ok hg hf hx
          have hiv := opd_ok hg hf hi
          rw [hx, hi] at e1
          cases xv <;> simp [atStr] at e1
          rename_i s
          cases hn : natOf iv with
          | none => simp [hn] at e1
          | some k =>
            rw [hn] at e1
            simp only [nth_eq] at e1
            cases hsk : s[k]? with
            | none => simp [hsk] at e1
            | some b =>
              simp [hsk] at e1
              subst e1
              obtain ⟨kd, hci⟩ := natOf_ok hiv hn
              generalize hq : a.eval x = cx at hxv
              cases hxv
              have hg2 : (⟨⟨s⟩⟩ : ByteArray)[k]? = some b := by
                obtain ⟨hlt, hb⟩ := List.getElem?_eq_some_iff.1 hsk
                have hlt2 : k < (⟨⟨s⟩⟩ : ByteArray).size := hlt
                rw [getElem?_pos (⟨⟨s⟩⟩ : ByteArray) k hlt2]
                exact congrArg some hb
              have hv : VRel pl M (.int .u8 (b.toNat : Int)) (.int .u8 (b.toNat : Int)) := .int _ _
              simpa [execOp, hq, hci, Instr.index, asIntOf, run_underlying hu, hg2] using Out.pure hr hv
end
end Go.Ev

/- Slice expressions. -/
namespace Go.Ev
open Go

section
variable {P : Program} {G : Env} {pl : Pl} {M : Mem} {h h' : AHeap} {w w' : World} {v : AV} {A : Fr} {a : Act}

theorem run_sliceBound {k : IntKind} {n y : Nat} (hn : n ≤ y) (code : BoundsCode) (w : World) : (Instr.sliceBound (.int k (n : Int)) y code).run P w = .ok n w := by
  simp [Instr.sliceBound, asIntOf, hn]

/-- An optional operand. -/
def ORel (pl : Pl) (M : Mem) (x : Option AV) (c : Option Value) : Prop :=
  match x, c with
  | none, none => True
  | some x, some c => VRel pl M x c
  | _, _ => False

theorem optd_some {x : Option Operand} {k : Option AV → Option AV} {r : AV} (hg : GOk G pl M) (hf : FrRel pl M A a) (e : optd G x A k = some r) :
    ∃ o, k o = some r ∧ ORel pl M o (x.map a.eval) := by
  cases x with
  | none => exact ⟨none, e, trivial⟩
  | some x =>
    simp only [optd] at e
    cases h1 : (opd G x).run A with
    | none => simp [h1] at e
    | some v => rw [h1] at e; exact ⟨some v, e, opd_ok hg hf h1⟩

theorem natOr_ok {d n : Nat} {x : Option AV} {c : Option Value} (hx : ORel pl M x c) (e : natOr d x = some n) : (x = none ∧ c = none ∧ n = d) ∨ (∃ k, c = some (.int k (n : Int)) ∧ x ≠ none) := by
  cases x with
  | none =>
    cases c with
    | none => simp [natOr] at e; exact .inl ⟨rfl, rfl, e.symm⟩
    | some c => exact hx.elim
  | some x =>
    cases c with
    | none => exact hx.elim
    | some c =>
      obtain ⟨k, rfl⟩ := natOf_ok hx e
      exact .inr ⟨k, rfl, by simp⟩

/-- The bounds 'lo', 'hi' without a third. -/
theorem run_bounds2 {isSlice : Bool} {len cap l u : Nat} {clo chi : Option Value} (hl : (clo = none ∧ l = 0) ∨ ∃ k, clo = some (.int k (l : Int))) (hu : (chi = none ∧ u = len) ∨ ∃ k, chi = some (.int k (u : Int)))
    (h1 : l ≤ u) (h2 : u ≤ cap) (w : World) : (Instr.sliceBounds isSlice len cap clo chi none).run P w = .ok (l, u, cap) w := by
  rcases hl with ⟨rfl, rfl⟩ | ⟨k, rfl⟩ <;> rcases hu with ⟨rfl, rfl⟩ | ⟨k', rfl⟩ <;> simp [Instr.sliceBounds, run_sliceBound h2, run_sliceBound h1]

/-- All three. -/
theorem run_bounds3 {isSlice : Bool} {len cap l u m : Nat} {clo : Option Value} {k1 k2 : IntKind} (hl : (clo = none ∧ l = 0) ∨ ∃ k, clo = some (.int k (l : Int)))
    (h1 : l ≤ u) (h2 : u ≤ m) (h3 : m ≤ cap) (w : World) : (Instr.sliceBounds isSlice len cap clo (some (.int k1 (u : Int))) (some (.int k2 (m : Int)))).run P w = .ok (l, u, m) w := by
  rcases hl with ⟨rfl, rfl⟩ | ⟨k, rfl⟩ <;> simp [Instr.sliceBounds, run_sliceBound h2, run_sliceBound h1, run_sliceBound h3]

theorem run_sliceAt {t e : TypeId} {s : Nat} (ht : P.underlying t = some (.slice e)) (hs : szOf P e = some s) {ad : Option Addr} {len cap l u m : Nat} {clo chi cmx : Option Value}
    (hb : (Instr.sliceBounds true len cap clo chi cmx).run P w = .ok (l, u, m) w) :
    (Instr.sliceAt t (.slice ad len cap) clo chi cmx).run P w = .ok (.slice (if m = l then ad else ad.map (·.add (l * s))) (u - l) (m - l)) w := by
  simp [Instr.sliceAt, run_underlying ht, Instr.slice, hb, run_sizeOf hs]

theorem run_sliceStr {t : TypeId} (ht : P.underlying t = some .string) {s : List UInt8} {l u : Nat} {clo chi : Option Value}
    (hb : (Instr.sliceBounds false s.length s.length clo chi none).run P w = .ok (l, u, s.length) w) (hlu : l ≤ u) (hus : u ≤ s.length) :
    (Instr.sliceAt t (.string ⟨⟨s⟩⟩) clo chi none).run P w = .ok (.string ⟨⟨(s.take u).drop l⟩⟩) w := by
  have hsz : (⟨⟨s⟩⟩ : ByteArray).size = s.length := rfl
  have he : (⟨⟨s⟩⟩ : ByteArray).extract l u = ⟨⟨(s.take u).drop l⟩⟩ := by
    apply ByteArray.ext
    apply Array.ext'
    simp [List.extract_eq_take_drop, List.drop_take]
  simp [Instr.sliceAt, run_underlying ht, Instr.slice, hsz, hb, he]

theorem cutSl_some {id ep off l u m : Nat} {cap : Option Nat} {v : AV} (e : cutSl id ep off l u m cap = some v) : l ≤ u ∧ u ≤ m ∧
    ((∃ c, cap = some c ∧ c = l ∧ v = .slice id ep 0 0 (some 0)) ∨ (∃ c, cap = some c ∧ c ≠ l ∧ v = .slice id ep (off + l) (u - l) (some (c - l))) ∨ (cap = none ∧ v = .slice id ep (off + l) (u - l) none)) := by
  unfold cutSl at e
  rw [ble_iff, ble_iff] at e
  by_cases h1 : l ≤ u
  · by_cases h2 : u ≤ m
    · simp [h1, h2] at e
      refine ⟨h1, h2, ?_⟩
      cases cap with
      | none => simp at e; exact .inr (.inr ⟨rfl, e.symm⟩)
      | some c =>
        simp only [beq_iff] at e
        by_cases h3 : c = l
        · simp [h3] at e; exact .inl ⟨c, rfl, h3, e.symm⟩
        · simp [h3] at e; exact .inr (.inl ⟨c, rfl, h3, e.symm⟩)
    · simp [h2] at e
  · simp [h1] at e

/-- A piece of a slice of a row. -/
theorem cut_ok {id ep off len cap' l u m : Nat} {cap capN : Option Nat} {sz : Nat} {xs : List AV} {p : Place} {ad : Addr} {v : AV} (hp : pl id = some p) (hep : p.ep = ep) (hsz : p.sz = sz) (hn : p.n = xs.length)
    (hcap : ∀ k, cap = some k → cap' = k) (had : cap' = 0 ∨ ad = ⟨p.blk, off * sz, none⟩) (htot : (off + cap') * sz ≤ p.tot) (hnone : cap = none → xs.length ≤ off + cap') (hsome : ∀ k, cap = some k → off + k ≤ xs.length)
    (hroom : u ≤ room xs.length off cap) (hlu : l ≤ u) (hum : u ≤ m) (hmc : m ≤ cap') (hoff : off + len ≤ xs.length)
    (hcN : (capN = none ∧ cap = none ∧ m = cap') ∨ (∃ c, capN = some c ∧ m = c ∧ c ≤ room xs.length off cap)) (e : cutSl id ep off l u m capN = some v) :
    VRel pl M v (.slice (if m = l then some ad else (some ad).map (·.add (l * sz))) (u - l) (m - l)) := by
  have hroomN : room xs.length off cap + off ≤ xs.length ∨ (room xs.length off cap = 0 ∧ xs.length < off) := by
    cases cap with
    | none => simp only [room]; omega
    | some c => simp only [room]; have := hsome c rfl; omega
  obtain ⟨_, _, hh⟩ := cutSl_some e
  have haddr : ∃ ad', (if m = l then some ad else (some ad).map (·.add (l * sz))) = some ad' ∧ (m - l = 0 ∨ ad' = ⟨p.blk, (off + l) * sz, none⟩) := by
    by_cases hml : m = l
    · exact ⟨ad, by simp [hml], .inl (by omega)⟩
    · refine ⟨ad.add (l * sz), by simp [hml], .inr ?_⟩
      rcases had with h0 | h0
      · omega
      · rw [h0, Addr.add_lit, Nat.add_mul]
  obtain ⟨ad', h1, h2⟩ := haddr
  rw [h1]
  have htot2 : (off + l + (m - l)) * p.sz ≤ p.tot := by
    rw [hsz]
    refine Nat.le_trans (Nat.mul_le_mul_right _ ?_) htot
    omega
  rcases hh with ⟨c, hc, hcl, rfl⟩ | ⟨c, hc, hcl, rfl⟩ | ⟨hc, rfl⟩
  · rcases hcN with ⟨h9, _⟩ | ⟨c2, h9, h10, _⟩
    · rw [h9] at hc; cases hc
    · rw [h9] at hc
      simp at hc
      have hm0 : m - l = 0 := by omega
      have hu0 : u - l = 0 := by omega
      rw [hm0, hu0]
      exact .slice hp (by omega) (Nat.le_refl _) (fun k hk => by simpa using hk) fun _ => ⟨.inl rfl, by simp, by simp, (fun hk => by cases hk), (fun k hk => by simp at hk; omega)⟩
  · rcases hcN with ⟨h9, _⟩ | ⟨c2, h9, h10, h11⟩
    · rw [h9] at hc; cases hc
    · rw [h9] at hc
      simp at hc
      refine .slice hp (by omega) (by omega) (fun k hk => by simp at hk; omega) fun _ => ⟨by rw [hsz]; exact h2, htot2, by rw [hn]; omega, (fun hk => by cases hk), (fun k hk => by simp at hk; rw [hn]; omega)⟩
  · rcases hcN with ⟨_, h9, h10⟩ | ⟨c2, h9, _⟩
    · refine .slice hp (by omega) (by omega) (fun k hk => by cases hk) fun _ => ⟨by rw [hsz]; exact h2, htot2, by rw [hn]; omega, fun _ => by rw [hn]; have := hnone h9; omega, fun k hk => by cases hk⟩
    · rw [h9] at hc; cases hc

theorem cutPs_some {xs : List AV} {l u : Nat} {tight : Bool} {v : AV} (e : cutPs xs l u tight = some v) : l ≤ u ∧ u ≤ xs.length ∧ v = .ps ((xs.take u).drop l) tight := by
  unfold cutPs at e
  rw [ble_iff, ble_iff] at e
  by_cases h1 : l ≤ u
  · by_cases h2 : u ≤ xs.length
    · simp [h1, h2] at e; exact ⟨h1, h2, e.symm⟩
    · simp [h2] at e
  · simp [h1] at e

/-- A piece of a plain slice. -/
theorem cutPs_ok {xs : List AV} {tight tN : Bool} {cx : Value} {s l u m : Nat} (hx : VRel pl M (.ps xs tight) cx) (hsz : headSz s xs = true) (hlu : l ≤ u) (hux : u ≤ xs.length) :
    ∃ ad cap, cx = .slice (some ad) xs.length cap ∧ xs.length ≤ cap ∧ (tight = true → cap = xs.length) ∧ (u ≤ m → m ≤ cap → (tN = true → m = u) →
      VRel pl M (.ps ((xs.take u).drop l) tN) (.slice (if m = l then some ad else (some ad).map (·.add (l * s))) (u - l) (m - l))) := by
  cases hx with
  | ps hl ht hm hs hc =>
    rename_i ad cap sz c
    refine ⟨ad, cap, rfl, hl, ht, fun hum hmc htN => ?_⟩
    have hlen : ((xs.take u).drop l).length = u - l := by simp; omega
    have hget : ∀ (i : Nat) (x : AV), ((xs.take u).drop l)[i]? = some x → xs[l + i]? = some x := by
      intro i x hi
      rw [List.getElem?_drop] at hi
      by_cases hlt : l + i < u
      · rw [List.getElem?_take_of_lt hlt] at hi; exact hi
      · rw [List.getElem?_take_eq_none (by omega)] at hi; cases hi
    have hmem : ∀ x, x ∈ (xs.take u).drop l → x ∈ xs := fun x hx => List.mem_of_mem_take (List.mem_of_mem_drop hx)
    rw [← hlen]
    by_cases hml : m = l
    · have hnil : (xs.take u).drop l = [] := List.eq_nil_of_length_eq_zero (by omega)
      rw [hnil]
      simp only [hml, if_true]
      exact .ps (c := c) (sz := sz) (by simp) (fun _ => by simp) (fun hh => absurd rfl hh) (fun x hx => by cases hx) (fun i x j y hi => by simp at hi)
    · simp only [hml, if_false, Option.map_some]
      by_cases hnil : (xs.take u).drop l = []
      · rw [hnil] at hlen ⊢
        simp at hlen
        refine .ps (c := c) (sz := sz) (by simp) (fun htt => ?_) (fun hh => absurd rfl hh) (fun x hx => by cases hx) (fun i x j y hi => by simp at hi)
        have := htN htt
        simp
        omega
      · have hne : xs ≠ [] := by intro e; subst e; simp at hnil
        obtain ⟨hspot, hM, hfit, h0⟩ := hm hne
        have hsz2 : sz = s := by
          cases xs with
          | nil => exact absurd rfl hne
          | cons x r =>
            simp only [headSz, beq_iff, decide_eq_true_eq] at hsz
            rw [← hsz]; exact ((hs x (by simp)).1).symm
        subst hsz2
        have had : ad = ⟨ad.block, ad.off, none⟩ := by cases ad; simp at hspot; subst hspot; rfl
        have hadd : ad.add (l * sz) = ⟨ad.block, ad.off + l * sz, none⟩ := by rw [had, Addr.add_lit]
        rw [hadd]
        refine .ps (c := c) (sz := sz) (by rw [hlen]; omega) (fun htt => by rw [hlen]; have := htN htt; omega) (fun _ => ⟨rfl, hM, ?_, h0⟩) (fun x hx => hs x (hmem x hx)) (fun i x j y hi hj => ?_)
        · have := Nat.mul_le_mul_right sz hux
          have e2 : (l + (u - l)) * sz = u * sz := by congr 1; omega
          rw [Nat.add_mul] at e2
          rw [hlen]
          show ad.off + l * sz + (u - l) * sz ≤ c.size
          omega
        · have := hc (l + i) x j y (hget i x hi) hj
          have e3 : ad.off + l * sz + i * sz + j = ad.off + (l + i) * sz + j := by rw [Nat.add_mul]; omega
          show VRel pl M y (c.getD (ad.off + l * sz + i * sz + j) undef)
          rw [e3]; exact this

theorem sliceSl_ok (hr : Rep pl M h w) {s : Nat} {x v : AV} {cx : Value} {lo hi mx : Option AV} {clo chi cmx : Option Value} (hx : VRel pl M x cx) (hlo : ORel pl M lo clo) (hhi : ORel pl M hi chi) (hmx : ORel pl M mx cmx)
    {t e : TypeId} (ht : P.underlying t = some (.slice e)) (hs : szOf P e = some s) (he : sliceSl s h (some x) lo hi mx = some v) : ∃ cv, (Instr.sliceAt t cx clo chi cmx).run P w = .ok cv w ∧ VRel pl M v cv := by
  unfold sliceSl at he
  split at he
  · rename_i id ep off len cap e0
    simp at e0; subst e0
    split at he
    · rename_i xs hrow
      obtain ⟨op, hg⟩ := rowOf_some hrow
      obtain ⟨p, c, t', ad, cap', q1, rfl, q3, q4, q5, q6, q7, q8, q9, q10, q11, q12, q13, q14, q15, q16, q17⟩ := slice_at hr hx hg
      have hroomcap : room xs.length off cap ≤ cap' := by
        cases cap with
        | none => simp only [room]; have := q16 rfl; omega
        | some k => simp only [room]; have := q12 k rfl; omega
      have hroomlen : len ≤ room xs.length off cap := by
        cases cap with
        | none => simp only [room]; omega
        | some k => simp only [room]; have := q12 k rfl; omega
      split at he
      · rename_i l hnl
        have hcl : (clo = none ∧ l = 0) ∨ ∃ k, clo = some (.int k (l : Int)) := by
          rcases natOr_ok hlo hnl with ⟨_, a1, a2⟩ | ⟨k, a1, _⟩
          · exact .inl ⟨a1, a2⟩
          · exact .inr ⟨k, a1⟩
        split at he
        · rename_i hi'
          cases cmx with
          | some c => exact hmx.elim
          | none =>
            split at he
            · rename_i u hnu
              have hcu : (chi = none ∧ u = len) ∨ ∃ k, chi = some (.int k (u : Int)) := by
                rcases natOr_ok hhi hnu with ⟨_, a1, a2⟩ | ⟨k, a1, _⟩
                · exact .inl ⟨a1, a2⟩
                · exact .inr ⟨k, a1⟩
              obtain ⟨b1, b2, _⟩ := cutSl_some he
              refine ⟨_, run_sliceAt ht hs (run_bounds2 hcl hcu b1 (Nat.le_trans b2 hroomcap) w), ?_⟩
              have he2 : cutSl id ep off l u cap' cap = some v := by
                revert he
                unfold cutSl
                simp [ble_iff, b1, b2, Nat.le_trans b2 hroomcap]
              refine cut_ok (cap := cap) q1 q4 q5 q6 q12 q13 (by rw [q7]; exact q14) q16 q17 b2 b1 (Nat.le_trans b2 hroomcap) (Nat.le_refl _) q15 ?_ he2
              cases cap with
              | none => exact .inl ⟨rfl, rfl, rfl⟩
              | some k => exact .inr ⟨k, rfl, q12 k rfl, Nat.le_refl _⟩
            · simp at he
        · rename_i m hi'
          cases cmx with
          | none => exact hmx.elim
          | some cm =>
            cases chi with
            | none => exact hhi.elim
            | some cu =>
              split at he
              · rename_i m' u hnm hnu
                obtain ⟨k1, rfl⟩ := natOf_ok hmx hnm
                obtain ⟨k2, rfl⟩ := natOf_ok hhi hnu
                rw [ble_iff] at he
                by_cases hmr : m' ≤ room xs.length off cap
                · simp [hmr] at he
                  obtain ⟨b1, b2, _⟩ := cutSl_some he
                  refine ⟨_, run_sliceAt ht hs (run_bounds3 hcl b1 b2 (Nat.le_trans hmr hroomcap) w), ?_⟩
                  exact cut_ok (cap := cap) q1 q4 q5 q6 q12 q13 (by rw [q7]; exact q14) q16 q17 (Nat.le_trans b2 hmr) b1 b2 (Nat.le_trans hmr hroomcap) q15 (.inr ⟨m', rfl, rfl, hmr⟩) he
                · simp [hmr] at he
              · simp at he
        · simp at he
      · simp at he
    · simp at he
  · rename_i xs tight e0
    simp at e0; subst e0
    split at he
    · rename_i hsz
      split at he
      · rename_i l hnl
        have hcl : (clo = none ∧ l = 0) ∨ ∃ k, clo = some (.int k (l : Int)) := by
          rcases natOr_ok hlo hnl with ⟨_, a1, a2⟩ | ⟨k, a1, _⟩
          · exact .inl ⟨a1, a2⟩
          · exact .inr ⟨k, a1⟩
        split at he
        · rename_i hi'
          cases cmx with
          | some c => exact hmx.elim
          | none =>
            split at he
            · rename_i u hnu
              obtain ⟨b1, b2, rfl⟩ := cutPs_some he
              have hcu : (chi = none ∧ u = xs.length) ∨ ∃ k, chi = some (.int k (u : Int)) := by
                rcases natOr_ok hhi hnu with ⟨_, a1, a2⟩ | ⟨k, a1, _⟩
                · exact .inl ⟨a1, a2⟩
                · exact .inr ⟨k, a1⟩
              cases hx with
              | ps hl htt hm hs2 hc =>
                rename_i ad cap sz c
                obtain ⟨ad2, cap2, e1, e2, e3, e4⟩ := cutPs_ok (tN := tight && Nat.beq u xs.length) (m := cap) (.ps hl htt hm hs2 hc) hsz b1 b2
                simp at e1
                obtain ⟨rfl, rfl⟩ := e1
                refine ⟨_, run_sliceAt ht hs (run_bounds2 hcl hcu b1 (Nat.le_trans b2 e2) w), e4 (Nat.le_trans b2 e2) (Nat.le_refl _) fun hh => ?_⟩
                simp [beq_iff] at hh
                rw [e3 hh.1, hh.2]
            · simp at he
        · rename_i m hi'
          cases cmx with
          | none => exact hmx.elim
          | some cm =>
            cases chi with
            | none => exact hhi.elim
            | some cu =>
              split at he
              · rename_i m' u hnm hnu
                obtain ⟨k1, rfl⟩ := natOf_ok hmx hnm
                obtain ⟨k2, rfl⟩ := natOf_ok hhi hnu
                rw [beq_iff] at he
                by_cases hmr : u = m'
                · simp [hmr] at he
                  subst hmr
                  obtain ⟨b1, b2, rfl⟩ := cutPs_some he
                  cases hx with
                  | ps hl htt hm hs2 hc =>
                    rename_i ad cap sz c
                    obtain ⟨ad2, cap2, e1, e2, e3, e4⟩ := cutPs_ok (tN := true) (m := u) (.ps hl htt hm hs2 hc) hsz b1 b2
                    simp at e1
                    obtain ⟨rfl, rfl⟩ := e1
                    exact ⟨_, run_sliceAt ht hs (run_bounds3 hcl b1 (Nat.le_refl _) (Nat.le_trans b2 e2) w), e4 (Nat.le_refl _) (Nat.le_trans b2 e2) fun _ => rfl⟩
                · simp [hmr] at he
              · simp at he
        · simp at he
      · simp at he
    · simp at he
  · rename_i e0
    simp at e0; subst e0
    cases hx
    split at he
    · rename_i hi' hnl
      cases cmx with
      | some c => exact hmx.elim
      | none =>
        split at he
        · rename_i hnu
          simp at he; subst he
          refine ⟨_, run_sliceAt ht hs (run_bounds2 (l := 0) (u := 0) ?_ ?_ (Nat.le_refl _) (Nat.le_refl _) w), by simpa using VRel.nils⟩
          · rcases natOr_ok hlo hnl with ⟨_, a1, a2⟩ | ⟨k, a1, _⟩
            · exact .inl ⟨a1, rfl⟩
            · exact .inr ⟨k, a1⟩
          · rcases natOr_ok hhi hnu with ⟨_, a1, a2⟩ | ⟨k, a1, _⟩
            · exact .inl ⟨a1, rfl⟩
            · exact .inr ⟨k, a1⟩
        · simp at he
    · rename_i m hi' hnl
      cases cmx with
      | none => exact hmx.elim
      | some cm =>
        cases chi with
        | none => exact hhi.elim
        | some cu =>
          split at he
          · rename_i hnm hnu
            simp at he; subst he
            obtain ⟨k1, rfl⟩ := natOf_ok hmx hnm
            obtain ⟨k2, rfl⟩ := natOf_ok hhi hnu
            refine ⟨_, run_sliceAt ht hs (run_bounds3 (l := 0) ?_ (Nat.le_refl _) (Nat.le_refl _) (Nat.le_refl _) w), by simpa using VRel.nils⟩
            rcases natOr_ok hlo hnl with ⟨_, a1, a2⟩ | ⟨k, a1, _⟩
            · exact .inl ⟨a1, rfl⟩
            · exact .inr ⟨k, a1⟩
          · simp at he
    · simp at he
  · simp at he

theorem VRel.loose {ys : List AV} {t : Bool} {cx : Value} (h : VRel pl M (.ps ys t) cx) : VRel pl M (.ps ys false) cx := by
  cases h with
  | ps hl ht hm hs hc => exact .ps hl (fun h => by cases h) hm hs hc

theorem sliceAny_ok (hr : Rep pl M h w) {s : Nat} {x v : AV} {cx : Value} {lo hi mx : Option AV} {clo chi cmx : Option Value} (hx : VRel pl M x cx) (hlo : ORel pl M lo clo) (hhi : ORel pl M hi chi) (hmx : ORel pl M mx cmx)
    {t e : TypeId} (ht : P.underlying t = some (.slice e)) (hs : szOf P e = some s) (he : sliceAny s h (some x) lo hi mx = some v) : ∃ cv, (Instr.sliceAt t cx clo chi cmx).run P w = .ok cv w ∧ VRel pl M v cv := by
  unfold sliceAny at he
  split at he
  · rename_i xs e0
    simp at e0
    subst e0
    cases mx with
    | some m => simp at he
    | none =>
      simp only [] at he
      cases hq : sliceSl s h (some (.ps xs false)) lo hi none with
      | none => rw [hq] at he; simp [lsOut] at he
      | some r =>
        rw [hq] at he
        cases hx with
        | lsp hx htop =>
          obtain ⟨cv, k1, k2⟩ := sliceSl_ok (P := P) hr hx hlo hhi hmx ht hs hq
          unfold lsOut at he
          split at he
          · rename_i ys tt q
            cases q
            cases he
            refine ⟨cv, k1, .lsp k2.loose ?_⟩
            have hsub : ∀ y, y ∈ ys → y ∈ xs := by
              simp only [sliceSl] at hq
              split at hq
              · split at hq
                · split at hq
                  · unfold cutPs at hq
                    split at hq
                    · simp only [Option.some.injEq, AV.ps.injEq] at hq
                      obtain ⟨rfl, _⟩ := hq
                      exact fun y hy => List.mem_of_mem_take (List.mem_of_mem_drop hy)
                    · simp at hq
                  · simp at hq
                · simp at hq
              · simp at hq
            exact tops_0.2 fun y hy => tops_0.1 htop y (hsub y hy)
          · simp at he
        | lsn =>
          have key : sliceSl s h (some .nils) lo hi none = some .nils ∧ v = .ls [] := by
            simp only [sliceSl] at hq ⊢
            split at hq
            · split at hq
              · rename_i l hl
                simp only [List.length_nil] at hq
                split at hq
                · rename_i u hu
                  unfold cutPs at hq
                  split at hq
                  · rename_i hb
                    simp only [ble_iff, Bool.and_eq_true, decide_eq_true_eq, List.length_nil] at hb
                    obtain rfl : u = 0 := by omega
                    obtain rfl : l = 0 := by omega
                    simp at hq
                    subst hq
                    simp [lsOut] at he
                    exact ⟨by simp [hl, hu], he.symm⟩
                  · simp at hq
                · simp at hq
              · simp at hq
            · simp at hq
          obtain ⟨k0, rfl⟩ := key
          obtain ⟨cv, k1, k2⟩ := sliceSl_ok (P := P) hr .nils hlo hhi hmx ht hs k0
          cases k2
          exact ⟨_, k1, .lsn⟩
  · exact sliceSl_ok hr hx hlo hhi hmx ht hs he

theorem sliceStr_ok {x v : AV} {cx : Value} {lo hi : Option AV} {clo chi : Option Value} (hx : VRel pl M x cx) (hlo : ORel pl M lo clo) (hhi : ORel pl M hi chi)
    {t : TypeId} (ht : P.underlying t = some .string) (he : sliceStr (some x) lo hi = some v) (w : World) : ∃ cv, (Instr.sliceAt t cx clo chi none).run P w = .ok cv w ∧ VRel pl M v cv := by
  unfold sliceStr at he
  split at he
  · rename_i s e0
    simp at e0; subst e0
    cases hx
    split at he
    · rename_i u l hnu hnl
      rw [ble_iff, ble_iff] at he
      by_cases h1 : l ≤ u
      · by_cases h2 : u ≤ s.length
        · simp [h1, h2] at he
          subst he
          refine ⟨_, run_sliceStr ht (run_bounds2 ?_ ?_ h1 h2 w) h1 h2, .str _⟩
          · rcases natOr_ok hlo hnl with ⟨_, a1, a2⟩ | ⟨k, a1, _⟩
            · exact .inl ⟨a1, a2⟩
            · exact .inr ⟨k, a1⟩
          · rcases natOr_ok hhi hnu with ⟨_, a1, a2⟩ | ⟨k, a1, _⟩
            · exact .inl ⟨a1, a2⟩
            · exact .inr ⟨k, a1⟩
        · simp [h2] at he
      · simp [h1] at he
    · simp at he
  · simp at he

theorem ok_slice (t : TypeId) (x : Operand) (lo hi mx : Option Operand) : OkOp P G (.slice t x lo hi mx) := by
  intro pl M A h v h' a w dst ty pos after guard hg hr hf he
  simp only [opR] at he
  cases hu : P.underlying t with
  | none => simp only [hu] at he; exact (fail_run he).elim
  | some d =>
    rw [hu] at he
    cases d <;> try exact (fail_run he).elim
    case string =>
      cases mx with
      | some m => exact (fail_run he).elim
      | none =>
        obtain ⟨u, e1, e2⟩ := retV_some he
        simp at e2
        obtain ⟨rfl, rfl⟩ := e2
        obtain ⟨olo, e3, r3⟩ := optd_some hg hf e1
        obtain ⟨ohi, e4, r4⟩ := optd_some hg hf e3
        cases hx : (opd G x).run A with
        | none => simp [hx, sliceStr] at e4
        | some xv =>
          rw [hx] at e4
          obtain ⟨cv, k1, k2⟩ := sliceStr_ok (P := P) (opd_ok hg hf hx) r3 r4 hu e4 w
          simpa [execOp, k1] using Out.pure hr k2
    case slice e =>
      cases hs : szOf P e with
      | none => simp only [hs] at he; exact (fail_run he).elim
      | some s =>
        cases s with
        | zero => simp only [hs] at he; exact (fail_run he).elim
        | succ s =>
          simp only [hs] at he
          obtain ⟨u, e1, e2⟩ := retV_some he
          simp at e2
          obtain ⟨rfl, rfl⟩ := e2
          obtain ⟨olo, e3, r3⟩ := optd_some hg hf e1
          obtain ⟨ohi, e4, r4⟩ := optd_some hg hf e3
          obtain ⟨omx, e5, r5⟩ := optd_some hg hf e4
          cases hx : (opd G x).run A with
          | none => simp [hx, sliceAny, sliceSl] at e5
          | some xv =>
            rw [hx] at e5
            obtain ⟨cv, k1, k2⟩ := sliceAny_ok (P := P) hr (opd_ok hg hf hx) r3 r4 r5 hu hs e5
            simpa [execOp, k1] using Out.pure hr k2
end
end Go.Ev

/- Equality of plain data; arithmetic; comparisons. -/
namespace Go.Ev
open Go

section
variable {P : Program} {G : Env} {pl : Pl} {M : Mem} {h h' : AHeap} {w w' : World} {v : AV} {A : Fr} {a : Act}

theorem kindB_eq {j k : IntKind} : kindB j k = decide (j = k) := by cases j <;> cases k <;> rfl
theorem eqI_eq : ∀ (x y : Int), eqI x y = (x == y)
  | .ofNat x, .ofNat y => by simp only [eqI, beq_iff]; rw [Bool.eq_iff_iff]; simp; omega
  | .negSucc x, .negSucc y => by simp only [eqI, beq_iff]; rw [Bool.eq_iff_iff]; simp
  | .ofNat x, .negSucc y => by simp only [eqI]; rw [Bool.eq_iff_iff]; simp
  | .negSucc x, .ofNat y => by simp only [eqI]; rw [Bool.eq_iff_iff]; simp
theorem ltI_eq : ∀ (x y : Int), ltI x y = decide (x < y)
  | .ofNat x, .ofNat y => by simp only [ltI, blt_iff]; rw [Bool.eq_iff_iff]; simp
  | .negSucc x, .negSucc y => by simp only [ltI, blt_iff]; rw [Bool.eq_iff_iff]; simp; omega
  | .ofNat x, .negSucc y => by simp only [ltI]; rw [Bool.eq_iff_iff]; simp; omega
  | .negSucc x, .ofNat y => by simp only [ltI]; rw [Bool.eq_iff_iff]; simp; omega
theorem u8_beq (a b : UInt8) : Nat.beq a.toNat b.toNat = (a == b) := by
  rw [beq_iff, Bool.eq_iff_iff]; simp [UInt8.toNat_inj]
theorem eqB_eq : ∀ (x y : List UInt8), eqB x y = (x == y)
  | [], [] => rfl
  | [], _ :: _ => rfl
  | _ :: _, [] => rfl
  | a :: x, b :: y => by simp only [eqB, u8_beq, eqB_eq x y]; rfl
theorem ltB_eq : ∀ (x y : List UInt8), ltB x y = Op.bytesLess x y
  | _, [] => by cases ‹List UInt8› <;> simp [ltB, Op.bytesLess]
  | [], _ :: _ => by simp [ltB, Op.bytesLess]
  | a :: x, b :: y => by
    simp only [ltB, Op.bytesLess, u8_beq, ltB_eq x y, blt_iff]
    congr 1

theorem bytes_toList (s : List UInt8) : (⟨⟨s⟩⟩ : ByteArray).toList = s := by rw [ByteArray.toList_eq]

theorem eqThen_some {k r : Option Bool} {b : Bool} (e : eqThen k r = some b) : (r = some true ∧ k = some b) ∨ (r = some false ∧ b = false) := by
  cases r with
  | none => simp [eqThen] at e
  | some r => cases r <;> simp [eqThen] at e
              · exact .inr ⟨rfl, e⟩
              · exact .inl ⟨rfl, e⟩

theorem eqL_append (xs ys : List AV) : ∀ (a b : List (Nat × Nat)), eqL xs ys (a ++ b) = eqThen (eqL xs ys b) (eqL xs ys a)
  | [], b => rfl
  | (i, t) :: r, b => by
    simp only [List.cons_append, eqL, eqL_append xs ys r b]
    cases eqO t (nth xs i) (nth ys i) with
    | none => rfl
    | some q => cases q <;> rfl

theorem tagOf_some {d : TypeDesc} {k : Nat} (e : tagOf d = some k) : (d = .bool ∧ k = 0) ∨ (∃ i, d = .int i ∧ k = 1) ∨ (d = .string ∧ k = 2) := by
  cases d <;> simp [tagOf] at e <;> simp [e]

/-- '==' of one cell. -/
theorem eqS_ok {x y : AV} {cx cy : Value} (hx : VRel pl M x cx) (hy : VRel pl M y cy) {b : Bool} {k : Nat} (e : eqS k x y = some b) {t : TypeId} {d : TypeDesc}
    (ht : P.underlying t = some d) (hk : tagOf d = some k) (n : Nat) (w : World) : (Op.equalIn (n + 1) t cx cy).run P w = .ok b w := by
  unfold eqS at e
  split at e
  · rw [kindB_eq] at e
    split at e
    · rename_i hj
      simp at hj e
      subst hj
      cases hx; cases hy
      rcases tagOf_some hk with ⟨_, h0⟩ | ⟨i, rfl, _⟩ | ⟨_, h0⟩
      · cases h0
      · rw [run_equalIn_int _ _ _ _ _ _ _ ht, ← e, eqI_eq]
      · cases h0
    · simp at e
  · simp at e
    cases hx; cases hy
    rcases tagOf_some hk with ⟨_, h0⟩ | ⟨i, rfl, h0⟩ | ⟨rfl, _⟩
    · cases h0
    · cases h0
    · rw [run_equalIn_string _ _ _ _ _ ht, ← e, eqB_eq, bytes_toList, bytes_toList]
  · simp at e
    cases hx; cases hy
    rcases tagOf_some hk with ⟨rfl, _⟩ | ⟨i, rfl, h0⟩ | ⟨_, h0⟩
    · rw [run_equalIn_bool' _ _ _ _ _ ht, ← e]
    · cases h0
    · cases h0
  · simp at e

theorem eqO_some {k : Nat} {x y : Option AV} {b : Bool} (e : eqO k x y = some b) : ∃ u v, x = some u ∧ y = some v ∧ eqS k u v = some b := by
  cases x <;> cases y <;> simp [eqO] at e
  exact ⟨_, _, rfl, rfl, e⟩

/-- A value of type 't' among the cells of 'vx', from 'off' on. -/
def AtOff (P : Program) (t : TypeId) (vx : Array Value) (off : Nat) (cx : Value) : Prop :=
  match isAggB P t with
  | some true => ∃ ex, cx = .agg ex ∧ ∀ k, k < (szOf P t).getD 0 → ex[k]? = vx[off + k]?
  | some false => vx[off]? = some cx
  | none => False

theorem isAgg_struct {t : TypeId} {fs : Array Field} (h : P.underlying t = some (.struct fs)) : isAggB P t = some true := by simp [isAggB, h]
theorem isAgg_tag {t : TypeId} {d : TypeDesc} {k : Nat} (h : P.underlying t = some d) (hk : tagOf d = some k) : isAggB P t = some false := by
  rcases tagOf_some hk with ⟨rfl, _⟩ | ⟨i, rfl, _⟩ | ⟨rfl, _⟩ <;> simp [isAggB, h]

theorem leaves_cases {n off : Nat} {t : TypeId} {ls : List (Nat × Nat)} (e : leaves P (n + 1) t off = some ls) :
    (∃ fs sz, P.underlying t = some (.struct fs) ∧ szOf P t = some sz ∧ P.stoodInHeld t = false ∧ leavesF P (leaves P n) sz off fs.toList = some ls) ∨
    (∃ d k, P.underlying t = some d ∧ szOf P t = some 1 ∧ tagOf d = some k ∧ ls = [(off, k)]) := by
  simp only [leaves] at e
  cases hu : P.underlying t with
  | none => simp [hu] at e
  | some d =>
    cases hs : szOf P t with
    | none => cases d <;> simp [hu, hs] at e
    | some sz =>
      by_cases hd : ∃ fs, d = .struct fs
      · obtain ⟨fs, rfl⟩ := hd
        simp only [hu, hs] at e
        cases hh : P.stoodInHeld t with
        | true => simp [hh] at e
        | false => simp only [hh] at e; exact .inl ⟨fs, sz, rfl, rfl, rfl, e⟩
      · have hd2 : ∀ fs, d ≠ .struct fs := fun fs h => hd ⟨fs, h⟩
        have h1 : sz = 1 ∧ ∃ k, tagOf d = some k ∧ ls = [(off, k)] := by
          rw [hu, hs] at e
          cases d <;> first | exact absurd rfl (hd2 _) | skip
          all_goals
            rcases sz with _ | _ | sz
            · simp at e
            · simp [tagOf] at e
              try exact ⟨rfl, _, rfl, e.symm⟩
            · simp at e
        obtain ⟨rfl, k, h2, h3⟩ := h1
        exact .inr ⟨d, k, rfl, rfl, h2, h3⟩

theorem leavesF_cons {f : TypeId → Nat → Option (List (Nat × Nat))} {sz off : Nat} {x : Field} {r : List Field} {ls : List (Nat × Nat)} (e : leavesF P f sz off (x :: r) = some ls) :
    x.name ≠ "_" ∧ ∃ s a b, szOf P x.type = some s ∧ f x.type (off + x.offset) = some a ∧ leavesF P f sz off r = some b ∧ x.offset + s ≤ sz ∧ ls = a ++ b := by
  simp only [leavesF] at e
  by_cases h0 : x.name = "_"
  · simp [h0] at e
  · refine ⟨h0, ?_⟩
    cases h1 : szOf P x.type with
    | none => simp [h0, h1] at e
    | some s =>
      cases h2 : f x.type (off + x.offset) with
      | none => simp [h0, h1, h2] at e
      | some a =>
        cases h3 : leavesF P f sz off r with
        | none => simp [h0, h1, h2, h3] at e
        | some b =>
          simp only [h0, decide_false, h1, h2, h3, ble_iff] at e
          by_cases h4 : x.offset + s ≤ sz
          · simp [h4] at e; exact ⟨s, a, b, rfl, rfl, rfl, h4, e.symm⟩
          · simp [h4] at e

/-- A field of a struct that lies among the cells. -/
theorem part_atOff {t : TypeId} {ag : Bool} {s o off sz : Nat} {ex vx : Array Value} (h1 : isAggB P t = some ag) (h2 : szOf P t = some s) (hs0 : ag = false → s = 1) (hfit : o + s ≤ sz) (hex : ∀ k, k < sz → ex[k]? = vx[off + k]?)
    (hin : ∀ k, k < s → (vx[off + o + k]?).isSome = true) (w : World) : ∃ cv, (part t ex o).run P w = .ok cv w ∧ AtOff P t vx (off + o) cv := by
  cases ag with
  | true =>
    refine ⟨.agg (ex.extract o (o + s)), by simp [part, run_isAgg h1, run_sizeOf h2], ?_⟩
    simp only [AtOff, h1, h2, Option.getD_some]
    refine ⟨_, rfl, fun k hk => ?_⟩
    have h3 := hex (o + k) (by omega)
    have h4 := hin k hk
    rw [show off + o + k = off + (o + k) by omega] at h4 ⊢
    rw [← h3] at h4 ⊢
    obtain ⟨u, hu⟩ := Option.isSome_iff_exists.1 h4
    have hlt := (Array.getElem?_eq_some_iff.1 hu).1
    rw [Array.getElem?_extract, if_pos (by omega)]
  | false =>
    have hs := hs0 rfl
    subst hs
    have h3 := hex o (by omega)
    have h4 := hin 0 (by omega)
    rw [Nat.add_zero] at h4
    rw [← h3] at h4
    obtain ⟨u, hu⟩ := Option.isSome_iff_exists.1 h4
    refine ⟨u, by simp [part, run_isAgg h1, hu], ?_⟩
    simp only [AtOff, h1]
    rw [← h3]; exact hu

/-- '==' of values of a type of plain data. -/
theorem eqL_ok {X Y : List AV} {vx vy : Array Value} (hX : VRels pl M X vx) (hY : VRels pl M Y vy) : ∀ (n : Nat) (t : TypeId) (off : Nat) (ls : List (Nat × Nat)) (cx cy : Value) (b : Bool) (d sz : Nat) (w : World),
    leaves P n t off = some ls → szOf P t = some sz → off + sz ≤ X.length → off + sz ≤ Y.length → AtOff P t vx off cx → AtOff P t vy off cy → eqL X Y ls = some b → (Op.equalIn (d + n) t cx cy).run P w = .ok b w
  | 0, _, _, _, _, _, _, _, _, _, e, _, _, _, _, _, _ => by simp [leaves] at e
  | n + 1, t, off, ls, cx, cy, b, d, sz, w, e, hsz, hlx, hly, hcx, hcy, he => by
    rcases leaves_cases e with ⟨fs, sz', hu, hs', hst, hl⟩ | ⟨dd, k, hu, hs1, hk, rfl⟩
    · rw [hsz] at hs'
      simp at hs'
      subst hs'
      simp only [AtOff, isAgg_struct hu, hsz, Option.getD_some] at hcx hcy
      obtain ⟨ex, rfl, hex⟩ := hcx
      obtain ⟨ey, rfl, hey⟩ := hcy
      have hfs : P.fieldsOf t = fs := by simp [Program.fieldsOf, hu]
      rw [show d + (n + 1) = (d + n) + 1 by omega, run_equalIn_agg _ _ _ _ _ (by rw [hfs]; exact hu) hst, hfs]
      generalize fs.toList = fl at hl
      clear hu hfs e
      induction fl generalizing ls b w with
      | nil => simp [leavesF] at hl; subst hl; simp [eqL] at he; subst he; simp [Op.eqFields]
      | cons f r ih =>
        obtain ⟨hname, s, a1, b1, g1, g2, g3, g4, rfl⟩ := leavesF_cons hl
        rw [eqL_append] at he
        have hag : ∃ ag, isAggB P f.type = some ag ∧ (ag = false → s = 1) := by
          cases n with
          | zero => simp [leaves] at g2
          | succ n =>
            rcases leaves_cases g2 with ⟨fs2, sz2, k1, k2, k3, k4⟩ | ⟨d2, k2, k3, k4, k5, k6⟩
            · exact ⟨true, isAgg_struct k1, fun h => by cases h⟩
            · rw [g1] at k4; simp at k4; exact ⟨false, isAgg_tag k3 k5, fun _ => k4⟩
        obtain ⟨ag, q1, q2⟩ := hag
        have hvx := hX.len
        have hvy := hY.len
        obtain ⟨cvx, r1, r2⟩ := part_atOff (P := P) (vx := vx) q1 g1 q2 g4 hex (fun k hk => by rw [Array.getElem?_eq_getElem (by omega)]; rfl) w
        obtain ⟨cvy, r3, r4⟩ := part_atOff (P := P) (vx := vy) q1 g1 q2 g4 hey (fun k hk => by rw [Array.getElem?_eq_getElem (by omega)]; rfl) w
        simp only [Op.eqFields, if_pos hname, Sem.run_bind, r1, r3, Result.andThen_ok]
        rcases eqThen_some he with ⟨he1, he2⟩ | ⟨he1, rfl⟩
        · rw [eqL_ok hX hY n f.type (off + f.offset) a1 cvx cvy true d s w g2 g1 (by omega) (by omega) r2 r4 he1]
          simp only [Result.andThen_ok, Bool.not_true, Bool.false_eq_true, if_false]
          exact ih b1 b w he2 g3
        · rw [eqL_ok hX hY n f.type (off + f.offset) a1 cvx cvy false d s w g2 g1 (by omega) (by omega) r2 r4 he1]
          simp
    · simp only [AtOff, isAgg_tag hu hk] at hcx hcy
      simp only [eqL] at he
      have he2 : eqO k (nth X off) (nth Y off) = some b := by
        rcases eqThen_some he with ⟨k1, k2⟩ | ⟨k1, k2⟩
        · simp at k2; rw [k1, k2]
        · rw [k1, k2]
      obtain ⟨u, v, e1, e2, e3⟩ := eqO_some he2
      rw [nth_eq] at e1 e2
      have hru := hX.at_ _ _ e1
      have hrv := hY.at_ _ _ e2
      have h5 := hX.get e1
      have h6 := hY.get e2
      rw [h5] at hcx
      rw [h6] at hcy
      have hcx' := Option.some.inj hcx
      have hcy' := Option.some.inj hcy
      rw [hcx'] at hru
      rw [hcy'] at hrv
      exact eqS_ok hru hrv e3 hu hk (d + n) w

theorem eqGuardType_leaves : ∀ (n : Nat) (t : TypeId) (off : Nat) (ls : List (Nat × Nat)) (D : Nat), leaves P n t off = some ls → n ≤ D → P.eqGuardType D t = false
  | 0, _, _, _, _, e, _ => by simp [leaves] at e
  | n + 1, t, off, ls, 0, _, h => by omega
  | n + 1, t, off, ls, D + 1, e, h => by
    rcases leaves_cases e with ⟨fs, sz', hu, hs', hst, hl⟩ | ⟨dd, k, hu, hs1, hk, rfl⟩
    · simp only [Program.eqGuardType, hu]
      rw [← Array.any_toList]
      generalize fs.toList = fl at hl
      clear hu e
      induction fl generalizing ls with
      | nil => rfl
      | cons f r ih =>
        obtain ⟨hname, s, a1, b1, g1, g2, g3, g4, rfl⟩ := leavesF_cons hl
        simp only [List.any_cons, eqGuardType_leaves n f.type _ a1 D g2 (by omega), Bool.and_false, Bool.false_or]
        exact ih b1 g3
    · rcases tagOf_some hk with ⟨rfl, _⟩ | ⟨i, rfl, _⟩ | ⟨rfl, _⟩ <;> simp [Program.eqGuardType, hu]

/-- The whole of a struct. -/
theorem atOff_whole {t : TypeId} {fs : Array Field} {vs : Array Value} (hu : P.underlying t = some (.struct fs)) : AtOff P t vs 0 (.agg vs) := by
  simp only [AtOff, isAgg_struct hu]
  exact ⟨vs, rfl, fun k _ => by rw [Nat.zero_add]⟩

theorem isAgg_leaves_struct {n : Nat} {t : TypeId} {ls : List (Nat × Nat)} (ha : isAggB P t = some true) (e : leaves P n t 0 = some ls) : ∃ fs, P.underlying t = some (.struct fs) := by
  cases n with
  | zero => simp [leaves] at e
  | succ n =>
    rcases leaves_cases e with ⟨fs, sz', hu, _⟩ | ⟨dd, k, hu, hs1, hk, rfl⟩
    · exact ⟨fs, hu⟩
    · rw [isAgg_tag hu hk] at ha; simp at ha
theorem eqNil_ok {x y : AV} {cx cy : Value} (hx : VRel pl M x cx) (hy : VRel pl M y cy) {t : TypeId} {b : Bool} (e : eqNil (P.underlying t) x y = some b) (n : Nat) (w : World) :
    (Op.equalIn (n + 1) t cx cy).run P w = .ok b w ∧ (∀ op o1 o2, eqGuard op t o1 o2 cx cy = pure ()) ∧ (∀ op, op = .eql ∨ op = .neq → binOp op t cx cy = (do let r ← Op.equal t cx cy; pure (.bool (if op = .eql then r else !r)))) := by
  unfold eqNil at e
  split at e <;> (try (simp at e; done)) <;> rename_i hu <;> simp at e <;> subst e <;> cases hx <;> cases hy <;>
    refine ⟨by simp [Op.equalIn, run_underlying hu], fun op o1 o2 => by cases op <;> rfl, fun op ho => ?_⟩ <;> rcases ho with rfl | rfl <;> simp [binOp]

theorem eqR_ok {x y : AV} {cx cy : Value} (hx : VRel pl M x cx) (hy : VRel pl M y cy) {t : TypeId} {b : Bool} (e : eqR (isAggB P t) (szOf P t) (leaves P 10 t 0) x y = some b) (w : World) :
    ∀ (o1 o2 : Operand), (eqGuard .eql t o1 o2 cx cy).run P w = .ok () w ∧ (eqGuard .neq t o1 o2 cx cy).run P w = .ok () w ∧
      (binOp .eql t cx cy).run P w = .ok (.bool b) w ∧ (binOp .neq t cx cy).run P w = .ok (.bool (!b)) w := by
  intro o1 o2
  unfold eqR at e
  split at e
  · rename_i as bs
    split at e
    · rename_i n l h1 h2 h3
      rw [beq_iff, beq_iff] at e
      by_cases ha : as.length = n
      · by_cases hb : bs.length = n
        · simp [ha, hb] at e
          obtain ⟨fs, hu⟩ := isAgg_leaves_struct h1 h3
          cases hx with
          | agg a1 a2 a3 =>
            cases hy with
            | agg b1 b2 b3 =>
              have hg := eqGuardType_leaves 10 t 0 l P.depth h3 (by unfold Program.depth Made.depth; omega)
              have he := fun w => eqL_ok (P := P) (pl := pl) (M := M) ⟨a1, a3⟩ ⟨b1, b3⟩ 10 t 0 l _ _ b 9990 n w h3 h2 (by omega) (by omega) (atOff_whole hu) (atOff_whole hu) e
              refine ⟨run_eqGuard_agg _ _ _ _ _ _ _ hg, run_eqGuard_agg _ _ _ _ _ _ _ hg, ?_, ?_⟩
              · rw [run_eql_struct, he]; rfl
              · rw [run_neq_struct, he]; rfl
        · simp [hb] at e
      · simp [ha] at e
    · simp at e
  · rw [kindB_eq] at e
    split at e
    · rename_i hj
      simp at hj e
      subst hj
      cases hx; cases hy
      rw [← e, eqI_eq]
      refine ⟨by rfl, by rfl, ?_, ?_⟩
      · rw [binOp_eql]; rfl
      · rw [binOp_neq]; rfl
    · simp at e
  · simp at e
    cases hx; cases hy
    rw [← e, eqB_eq]
    refine ⟨by rfl, by rfl, ?_, ?_⟩ <;> simp [binOp, Op.stringOp, bytes_toList]
  · split at e
    · rename_i hag hl
      simp at e
      cases hx; cases hy
      have hb : P.underlying t = some .bool := by
        rcases leaves_cases hl with ⟨fs, sz', hu, hs', hst, hl2⟩ | ⟨dd, k, hu, hs1, hk, h9⟩
        · rw [isAgg_struct hu] at hag; simp at hag
        · simp at h9
          rcases tagOf_some hk with ⟨rfl, _⟩ | ⟨i, rfl, h0⟩ | ⟨_, h0⟩
          · exact hu
          · rw [h0] at h9; simp at h9
          · rw [h0] at h9; simp at h9
      refine ⟨by rfl, by rfl, ?_, ?_⟩
      · simp [binOp, Op.equal, Op.maxDepth, run_equalIn_bool' _ _ _ _ _ hb, e]
      · simp [binOp, Op.equal, Op.maxDepth, run_equalIn_bool' _ _ _ _ _ hb, e]
    · simp at e
  · simp at e
theorem two_some {f : AV → AV → Option AV} {x y : Option AV} {v : AV} (e : two f x y = some v) : ∃ a b, x = some a ∧ y = some b ∧ f a b = some v := by
  cases x <;> cases y <;> simp [two] at e
  exact ⟨_, _, rfl, rfl, e⟩
theorem one_some {f : AV → Option AV} {x : Option AV} {v : AV} (e : one f x = some v) : ∃ a, x = some a ∧ f a = some v := by
  cases x <;> simp [one] at e
  exact ⟨_, rfl, e⟩

theorem arith_some {f : IntKind → Int → Int → Option AV} {x y v : AV} (e : arithR f x y = some v) : ∃ k a b, x = .int k a ∧ y = .int k b ∧ f k a b = some v := by
  unfold arithR at e
  split at e
  · rw [kindB_eq] at e
    split at e
    · rename_i hj; simp at hj; subst hj; exact ⟨_, _, _, rfl, rfl, e⟩
    · simp at e
  · simp at e

/-- The run of a binary operation, guard and all. -/
def BinRun (P : Program) (op : BinOp) (t : TypeId) (o1 o2 : Operand) (cx cy : Value) : Sem Value := do eqGuard op t o1 o2 cx cy; binOp op t cx cy

theorem orElse_some {k r : Option Bool} {b : Bool} (e : orElseB k r = some b) : r = some b ∨ (r = none ∧ k = some b) := by
  cases r <;> simp [orElseB] at e
  · exact .inr ⟨rfl, e⟩
  · exact .inl (by rw [e])

theorem eq_both {x y : AV} {cx cy : Value} (hx : VRel pl M x cx) (hy : VRel pl M y cy) {t : TypeId} {b : Bool} (e : orElseB (eqNil (P.underlying t) x y) (eqR (isAggB P t) (szOf P t) (leaves P 10 t 0) x y) = some b) (o1 o2 : Operand) (w : World) :
    (BinRun P .eql t o1 o2 cx cy).run P w = .ok (.bool b) w ∧ (BinRun P .neq t o1 o2 cx cy).run P w = .ok (.bool (!b)) w := by
  rcases orElse_some e with e | ⟨_, e⟩
  · obtain ⟨h1, h2, h3, h4⟩ := eqR_ok hx hy e w o1 o2
    exact ⟨by simp [BinRun, h1, h3], by simp [BinRun, h2, h4]⟩
  · obtain ⟨h1, h2, h3⟩ := eqNil_ok hx hy e 9999 w
    have h4 := h3 .eql (.inl rfl)
    have h5 := h3 .neq (.inr rfl)
    exact ⟨by simp [BinRun, h2, h4, Op.equal, Op.maxDepth, h1], by simp [BinRun, h2, h5, Op.equal, Op.maxDepth, h1]⟩

theorem cmp_some {fi : Int → Int → Bool} {fs : List UInt8 → List UInt8 → Bool} {x y v : AV} (e : cmpR fi fs x y = some v) :
    (∃ k a b, x = .int k a ∧ y = .int k b ∧ v = .bool (fi a b)) ∨ (∃ a b, x = .str a ∧ y = .str b ∧ v = .bool (fs a b)) := by
  unfold cmpR at e
  split at e
  · rw [kindB_eq] at e
    split at e
    · rename_i hj; simp at hj e; subst hj; exact .inl ⟨_, _, _, rfl, rfl, e.symm⟩
    · simp at e
  · simp at e; exact .inr ⟨_, _, rfl, rfl, e.symm⟩
  · simp at e

theorem bool_rel {b c : Bool} (h : b = c) : VRel pl M (.bool b) (.bool c) := by subst h; exact .bool _
theorem binR_ok {op : BinOp} {x y v : AV} {cx cy : Value} (hx : VRel pl M x cx) (hy : VRel pl M y cy) {t : TypeId} (e : binR op (P.underlying t) (isAggB P t) (szOf P t) (leaves P 10 t 0) x y = some v) (o1 o2 : Operand) (w : World) :
    ∃ cv, (BinRun P op t o1 o2 cx cy).run P w = .ok cv w ∧ VRel pl M v cv := by
  cases op
  case add =>
    simp only [binR] at e
    unfold addR at e
    split at e
    · rw [kindB_eq] at e
      split at e
      · rename_i hj; simp at hj e; subst hj; subst e
        cases hx; cases hy
        exact ⟨_, by simp [BinRun, eqGuard_add, binOp_add, Op.intArith], .int _ _⟩
      · simp at e
    · rename_i a b
      rw [ble_iff] at e
      split at e
      · rename_i hj; simp at hj e; subst e
        cases hx; cases hy
        refine ⟨.string ⟨⟨a ++ b⟩⟩, ?_, .str _⟩
        have h1 : (⟨⟨a⟩⟩ ++ ⟨⟨b⟩⟩ : ByteArray) = ⟨⟨a ++ b⟩⟩ := by
          apply ByteArray.ext
          rw [ByteArray.data_append]
          apply Array.ext'
          simp
        have h2 : (⟨⟨a⟩⟩ : ByteArray).size = a.length := rfl
        have h3 : (⟨⟨b⟩⟩ : ByteArray).size = b.length := rfl
        have h4 : ¬ (9223372036854775807 < ((a.length : Int) + (b.length : Int))) := by omega
        simp [BinRun, eqGuard_add, binOp, Op.stringOp, h1, h2, h3, h4]
      · simp at e
    · simp at e
  case sub =>
    obtain ⟨k, a, b, rfl, rfl, e'⟩ := arith_some e
    simp at e'; subst e'; cases hx; cases hy
    exact ⟨_, by simp [BinRun, eqGuard_sub, binOp_sub, Op.intArith], .int _ _⟩
  case mul =>
    obtain ⟨k, a, b, rfl, rfl, e'⟩ := arith_some e
    simp at e'; subst e'; cases hx; cases hy
    exact ⟨_, by simp [BinRun, eqGuard_mul, binOp_mul, Op.intArith], .int _ _⟩
  case quo =>
    obtain ⟨k, a, b, rfl, rfl, e'⟩ := arith_some e
    rw [eqI_eq] at e'
    split at e'
    · simp at e'
    · rename_i hb; simp at e' hb; subst e'; cases hx; cases hy
      exact ⟨_, by simp [BinRun, eqGuard_quo, binOp_quo, Op.intDiv, hb], .int _ _⟩
  case rem =>
    obtain ⟨k, a, b, rfl, rfl, e'⟩ := arith_some e
    rw [eqI_eq] at e'
    split at e'
    · simp at e'
    · rename_i hb; simp at e' hb; subst e'; cases hx; cases hy
      exact ⟨_, by simp [BinRun, eqGuard_rem, binOp_rem, Op.intDiv, hb], .int _ _⟩
  case eql =>
    simp only [binR] at e
    split at e
    · rename_i b hb; simp at e; subst e; exact ⟨_, (eq_both hx hy hb o1 o2 w).1, .bool _⟩
    · simp at e
  case neq =>
    simp only [binR] at e
    split at e
    · rename_i b hb; simp at e; subst e; exact ⟨_, (eq_both hx hy hb o1 o2 w).2, .bool _⟩
    · simp at e
  case lss =>
    rcases cmp_some e with ⟨k, a, b, rfl, rfl, rfl⟩ | ⟨a, b, rfl, rfl, rfl⟩ <;> cases hx <;> cases hy
    · exact ⟨.bool (decide (a < b)), by simp [BinRun, eqGuard_lss, binOp_lss], bool_rel (ltI_eq _ _)⟩
    · exact ⟨.bool (Op.bytesLess a b), by simp [BinRun, eqGuard_lss, binOp, Op.stringOp, bytes_toList], bool_rel (ltB_eq _ _)⟩
  case leq =>
    rcases cmp_some e with ⟨k, a, b, rfl, rfl, rfl⟩ | ⟨a, b, rfl, rfl, rfl⟩ <;> cases hx <;> cases hy
    · refine ⟨.bool (decide (a ≤ b)), by simp [BinRun, eqGuard_leq, binOp_leq], bool_rel ?_⟩
      rw [ltI_eq, Bool.eq_iff_iff]; simp
    · exact ⟨.bool (Op.bytesLess a b || a == b), by simp [BinRun, eqGuard_leq, binOp, Op.stringOp, bytes_toList], bool_rel (by rw [ltB_eq, eqB_eq])⟩
  case gtr =>
    rcases cmp_some e with ⟨k, a, b, rfl, rfl, rfl⟩ | ⟨a, b, rfl, rfl, rfl⟩ <;> cases hx <;> cases hy
    · exact ⟨.bool (decide (b < a)), by simp [BinRun, eqGuard_gtr, binOp_gtr], bool_rel (ltI_eq _ _)⟩
    · exact ⟨.bool (!(Op.bytesLess a b || a == b)), by simp [BinRun, eqGuard_gtr, binOp, Op.stringOp, bytes_toList], bool_rel (by rw [ltB_eq, eqB_eq])⟩
  case geq =>
    rcases cmp_some e with ⟨k, a, b, rfl, rfl, rfl⟩ | ⟨a, b, rfl, rfl, rfl⟩ <;> cases hx <;> cases hy
    · refine ⟨.bool (decide (b ≤ a)), by simp [BinRun, eqGuard_geq, binOp, Op.intCmp], bool_rel ?_⟩
      rw [ltI_eq, Bool.eq_iff_iff]; simp
    · exact ⟨.bool (!Op.bytesLess a b), by simp [BinRun, eqGuard_geq, binOp, Op.stringOp, bytes_toList], bool_rel (by rw [ltB_eq])⟩
  case shl =>
    simp only [binR] at e
    unfold shlR at e
    split at e
    · rename_i k a j b
      simp at e; subst e; cases hx; cases hy
      have h0 : ¬ ((Int.ofNat b) < 0) := by simp
      exact ⟨_, by simp only [BinRun, eqGuard_shl, binOp, Op.shift, Sem.run_bind, Sem.run_pure, Result.andThen_ok, h0, if_false]; rfl, .int _ _⟩
    · simp at e
  case shr =>
    simp only [binR] at e
    unfold shrR at e
    split at e
    · rename_i k a j b
      simp at e; subst e; cases hx; cases hy
      have h0 : ¬ ((Int.ofNat b) < 0) := by simp
      exact ⟨_, by simp only [BinRun, eqGuard_shr, binOp, Op.shift, Sem.run_bind, Sem.run_pure, Result.andThen_ok, h0, if_false]; rfl, .int _ _⟩
    · simp at e
  all_goals simp [binR] at e

theorem ok_binOp (op : BinOp) (t : TypeId) (x y : Operand) (t2 : TypeId) : OkOp P G (.binOp op t x y t2) := by
  intro pl M A h v h' a w dst ty pos after guard hg hr hf he
  obtain ⟨u, e1, e2⟩ := retV_some he
  simp at e2
  obtain ⟨rfl, rfl⟩ := e2
  obtain ⟨xv, yv, hx, hy, e3⟩ := two_some e1
  obtain ⟨cv, k1, k2⟩ := binR_ok (P := P) (opd_ok hg hf hx) (opd_ok hg hf hy) e3 x y w
  have : (execOp a.eval ⟨dst, .binOp op t x y t2, ty, pos, after, guard⟩).run P w = .ok (.value cv) w := by
    show ((do let r ← BinRun P op t x y (a.eval x) (a.eval y); pure (.value r)) : Sem Next).run P w = _
    rw [Sem.run_bind, k1]; rfl
  rw [this]
  exact Out.pure hr k2

theorem ok_unOp (op : UnOp) (t : TypeId) (x : Operand) : OkOp P G (.unOp op t x) := by
  intro pl M A h v h' a w dst ty pos after guard hg hr hf he
  obtain ⟨u, e1, e2⟩ := retV_some he
  simp at e2
  obtain ⟨rfl, rfl⟩ := e2
  obtain ⟨xv, hx, e3⟩ := one_some e1
  have hxv := opd_ok hg hf hx
  generalize hq : a.eval x = cx at hxv
  unfold unR at e3
  split at e3 <;> simp at e3 <;> subst e3 <;> cases hxv
  · simpa [execOp, hq, Op.unary] using Out.pure hr (.bool _)
  · rename_i k n
    have := Out.pure (h := h') hr (VRel.int (pl := pl) (M := M) k (k.wrap (0 - n)))
    simpa [execOp, hq, Op.unary, Op.intArith] using this
end
end Go.Ev

/- Operations that make memory: boxes, literals, makes; conversions; lengths. -/
namespace Go.Ev
open Go

section
variable {P : Program} {G : Env} {pl : Pl} {M : Mem} {h h' : AHeap} {w w' : World} {v : AV} {A : Fr} {a : Act}

theorem WSame.push (w : World) (o : Obj) : WSame w { w with heap := w.heap.push o } := ⟨rfl, rfl, rfl, Nat.le_refl _⟩

/-- A new variable. -/
theorem box_ok (hr : Rep pl M h w) {z : AV} {cz : Value} (hz : VRel pl M z cz) {r : ARes} (e : boxR h (some z) = some r) (t : TypeId) :
    ∃ w' pl', (newVar t cz).run P w = .ok ⟨w.heap.size, 0, none⟩ w' ∧ r = .val (.ptr h.n 0 0 0) (h.push (.row z.cells.length false 0 [z])) ∧
      VRel pl' M (.ptr h.n 0 0 0) (.pointer (some ⟨w.heap.size, 0, none⟩)) ∧ Rep pl' M (h.push (.row z.cells.length false 0 [z])) w' ∧ Step h pl M w (h.push (.row z.cells.length false 0 [z])) pl' M w' := by
  simp only [boxR] at e
  cases hc : z.cells with
  | nil => simp [hc] at e
  | cons c0 cr =>
    simp only [hc] at e
    cases hf : flatB z with
    | false => simp [hf] at e
    | true =>
      simp [hf] at e
      have hlen : z.cells.length = cr.length + 1 := by rw [hc]; rfl
      rw [← hlen] at e
      rw [← hc]
      have hcz := hz.cells
      have hsc := hz.sc hf
      have hpos : 0 < z.cells.length := by rw [hc]; simp
      let p : Place := ⟨w.heap.size, 0, z.cells.length, 1, z.cells.length⟩
      have hext : Ext pl (upd pl h.n p) := fun id q hq => ⟨q, by rw [upd_other (by have := hr.dom id q hq; omega)]; exact hq, Nat.le_refl _, fun _ => rfl⟩
      obtain ⟨h1, h2⟩ := Rep.alloc (o := .row z.cells.length false 0 [z]) (ob := .cells cz.cells t) (p := p) (w' := { w with heap := w.heap.push (.cells cz.cells t) }) hr rfl (WSame.push _ _) rfl (by
        refine ⟨rfl, rfl, rfl, hcz.len, rfl, hpos, fun _ => by simp [hcz.len], ⟨by simp [hcz.len], fun x hx => ?_, fun i x j y hi hj => ?_⟩⟩
        · simp at hx; subst hx; exact ⟨rfl, hsc⟩
        · cases i with
          | zero => simp at hi; subst hi; simpa using ((hcz.at_ j y hj).mono hext fun _ _ h => h)
          | succ i => simp at hi)
      refine ⟨_, _, by simp [newVar, newRow], e.symm, .ptr (upd_same _ _ _) (Nat.le_refl _) fun _ => by simp [p], h1, h2⟩

theorem ofBox_out (hr : Rep pl M h w) {z : AV} {cz : Value} (hz : VRel pl M z cz) {r : ARes} (e : boxR h (some z) = some r) (he : r = .val v h') (t : TypeId) :
    Out pl M h w ((do pure (Next.value (.pointer (some (← newVar t cz)))) : Sem Next).run P w) v h' := by
  obtain ⟨w', pl', k1, k2, k3, k4, k5⟩ := box_ok (P := P) hr hz e t
  rw [k2] at he
  simp at he
  obtain ⟨rfl, rfl⟩ := he
  exact ⟨pl', M, _, w', _, by simp only [Sem.run_bind, k1, Result.andThen_ok]; rfl, .inl rfl, k3, k4, k5, by show h.n ≤ h.n + 1; omega⟩

theorem ok_box (t : TypeId) (x : Operand) : OkOp P G (.box t x) := by
  intro pl M A h v h' a w dst ty pos after guard hg hr hf he
  cases hx : (opd G x).run A with
  | none => simp [opR, hx, boxR] at he
  | some xv =>
    have he2 : boxR h (some xv) = some (.val v h') := by rw [← hx]; exact he
    have := ofBox_out (P := P) hr (opd_ok hg hf hx) he2 rfl t
    have e2 : (execOp a.eval ⟨dst, .box t x, ty, pos, after, guard⟩) = (do pure (Next.value (.pointer (some (← newVar t (a.eval x)))))) := by simp [execOp, Instr.box]
    rw [e2]; exact this

theorem ok_alloc (t : TypeId) : OkOp P G (.alloc t) := by
  intro pl M A h v h' a w dst ty pos after guard hg hr hf he
  simp only [opR] at he
  cases hz : zeroA P t with
  | none => simp only [hz] at he; exact (fail_run he).elim
  | some z =>
    cases hs : szOf P t with
    | none => simp only [hz, hs] at he; exact (fail_run he).elim
    | some s =>
      simp only [hz, hs] at he
      cases hb : Nat.beq z.cells.length s with
      | false => simp only [hb] at he; exact (fail_run he).elim
      | true =>
        simp only [hb] at he
        obtain ⟨zv, hz1, hz2⟩ := run_zero hz
        have := ofBox_out (P := P) hr (ofValue_ok hz2) he rfl t
        have e2 : (execOp a.eval ⟨dst, .alloc t, ty, pos, after, guard⟩).run P w = ((do pure (Next.value (.pointer (some (← newVar t zv)))) : Sem Next)).run P w := by
          simp [execOp, Instr.alloc, hz1]
        rw [e2]; exact this

theorem ok_makeMap (t : TypeId) (r : Option Operand) : OkOp P G (.makeMap t r) := by
  intro pl M A h v h' a w dst ty pos after guard hg hr hf he
  have key : v = .map h.n → h' = h.push (.map [] 0) → (Instr.makeMap t (r.map a.eval)).run P w = .ok (.map (some w.heap.size)) { w with heap := w.heap.push (.map #[] 0) } →
      Out pl M h w ((execOp a.eval ⟨dst, .makeMap t r, ty, pos, after, guard⟩).run P w) v h' := by
    intro e1 e2 e3
    subst e1; subst e2
    let p : Place := ⟨w.heap.size, 0, 0, 0, 0⟩
    obtain ⟨h1, h2⟩ := Rep.alloc (o := .map [] 0) (ob := .map #[] 0) (p := p) (w' := { w with heap := w.heap.push (.map #[] 0) }) hr rfl (WSame.push _ _) rfl
      ⟨rfl, rfl, rfl, fun i e hi => by simp at hi⟩
    exact ⟨_, M, _, _, _, by simp only [execOp, Sem.run_bind, e3, Result.andThen_ok]; rfl, .inl rfl, .map (upd_same _ _ _) (fun _ => rfl), h1, h2, by show h.n ≤ h.n + 1; omega⟩
  cases r with
  | none =>
    simp only [opR] at he
    cases hu : P.underlying t with
    | none => simp only [hu] at he; exact (fail_run he).elim
    | some d =>
      rw [hu] at he
      cases d <;> try exact (fail_run he).elim
      simp at he
      obtain ⟨rfl, rfl⟩ := he
      exact key rfl rfl (by simp [Instr.makeMap])
  | some r =>
    simp only [opR] at he
    cases hu : P.underlying t with
    | none => simp only [hu] at he; exact (fail_run he).elim
    | some d =>
      rw [hu] at he
      cases d <;> try exact (fail_run he).elim
      simp only [] at he
      cases hx : (opd G r).run A with
      | none => simp [hx] at he
      | some x =>
        have hxv := opd_ok hg hf hx
        rw [hx] at he
        cases x <;> simp at he
        obtain ⟨rfl, rfl⟩ := he
        generalize hq : a.eval r = cx at hxv
        cases hxv
        exact key rfl rfl (by simp [Instr.makeMap, run_underlying hu, hq, asInt, asIntOf])

theorem small_some {n b : Nat} (e : small n b = true) : n ≤ 2 ^ 40 ∧ n * b ≤ 2 ^ 40 := by
  simp only [small, ble_iff, Bool.and_eq_true, decide_eq_true_eq] at e
  exact e

/-- 'n' copies of one element, as cells. -/
theorem inMem_replicate {z : AV} {cz : Value} (hz : VRel pl M z cz) (hf : flatB z = true) (n : Nat) {s : Nat} (hs : z.cells.length = s) (hs0 : 0 < s) :
    InMem pl M ((Array.range (n * s)).map (cz.cells[· % cz.cells.size]!)) 0 s (List.replicate n z) := by
  have hc := hz.cells
  have hsz : cz.cells.size = s := by rw [← hc.len]; exact hs
  refine ⟨by simp, fun x hx => ?_, fun i x j y hi hj => ?_⟩
  · rw [List.mem_replicate] at hx
    rw [hx.2]; exact ⟨hs, hz.sc hf⟩
  · rw [List.getElem?_replicate] at hi
    split at hi
    · rename_i hin
      simp at hi; subst hi
      have hj2 : j < s := by rw [← hs]; exact (List.getElem?_eq_some_iff.1 hj).1
      have h1 := hc.at_ j y hj
      have h2 : (i + 1) * s ≤ n * s := Nat.mul_le_mul_right _ hin
      rw [Nat.add_mul] at h2
      have h3 : 0 + i * s + j < n * s := by omega
      have h4 : (0 + i * s + j) % s = j := by
        rw [Nat.zero_add, Nat.add_comm, Nat.add_mul_mod_self_right]; exact Nat.mod_eq_of_lt hj2
      have h5 : ((Array.range (n * s)).map (cz.cells[· % cz.cells.size]!)).getD (0 + i * s + j) undef = cz.cells.getD j undef := by
        rw [Array.getD_eq_getD_getElem?, Array.getElem?_map, Array.getElem?_range, if_pos h3]
        simp only [Option.map_some, Option.getD_some, hsz, h4]
        rw [Array.getD_eq_getD_getElem?]
        have : j < cz.cells.size := by omega
        simp [this]
      rw [h5]; exact h1
    · simp at hi

theorem elemOf_some {t e : TypeId} (h : elemOfSlice P t = some e) : P.underlying t = some (.slice e) := by
  unfold elemOfSlice at h
  split at h
  · rename_i q hq; simp at h; subst h; exact hq
  · simp at h

theorem run_makeSlice {t e : TypeId} {i : TypeInfo} {zv : Value} (ht : P.underlying t = some (.slice e)) (hi : P.info? e = some i) (hz : ∀ w, (zeroValue e).run P w = .ok zv w) {n m : Nat} (hnm : n ≤ m) (hm : m ≤ 2 ^ 40) (hb : m * i.bytes ≤ 2 ^ 40)
    (k k2 : IntKind) (w : World) : (Instr.makeSlice t (.int k (n : Int)) (.int k2 (m : Int))).run P w =
      .ok (.slice (some ⟨w.heap.size, 0, none⟩) n m) { w with heap := w.heap.push (.cells ((Array.range (m * i.size)).map (zv.cells[· % zv.cells.size]!)) e) } := by
  have g1 : IntKind.i64.wrap (n : Int) = (n : Int) := IntWalk.i64_in _ ⟨by omega, by omega⟩
  have g2 : IntKind.i64.wrap (m : Int) = (m : Int) := IntWalk.i64_in _ ⟨by omega, by omega⟩
  have g3 : ¬ ((m : Int) < 0) := by omega
  have g4 : ((i.bytes : Int) * (m : Int)) ≤ 1099511627776 := by
    have h1 : ((m * i.bytes : Nat) : Int) ≤ ((2 ^ 40 : Nat) : Int) := by exact_mod_cast hb
    rw [Nat.mul_comm, Int.natCast_mul] at h1
    simpa using h1
  have g4' : ¬ (281474976710656 < (i.bytes : Int) * (m : Int)) := by omega
  have g5 : ¬ ((n : Int) < 0) := by omega
  have g6 : ¬ ((m : Int) < (n : Int)) := by omega
  have hsz : szOf P e = some i.size := by simp [szOf, hi]
  by_cases g8 : m * i.size = 0
  · simp [Instr.makeSlice, run_underlying ht, asInt, asIntOf, typeInfo, hi, g1, g2, g3, g4', g5, g6, run_sizeOf hsz, g8, newRow]
    congr 2 <;> simp [Array.range_zero']
  · simp [Instr.makeSlice, run_underlying ht, asInt, asIntOf, typeInfo, hi, g1, g2, g3, g4', g5, g6, run_sizeOf hsz, g8, newRow, hz]

theorem ok_makeSlice (t : TypeId) (l c : Operand) : OkOp P G (.makeSlice t l c) := by
  intro pl M A h v h' a w dst ty pos after guard hg hr hf he
  simp only [opR] at he
  cases h1 : elemOfSlice P t with
  | none => simp only [h1] at he; exact (fail_run he).elim
  | some e =>
    simp only [h1] at he
    cases h2 : P.info? e with
    | none => simp only [h2] at he; exact (fail_run he).elim
    | some i =>
      cases h3 : zeroA P e with
      | none => simp only [h2, h3] at he; exact (fail_run he).elim
      | some z =>
        simp only [h2, h3, beq_iff, blt_iff] at he
        by_cases c1 : z.cells.length = i.size
        · by_cases c2 : 0 < i.size
          · by_cases c3 : flatB z = true
            · simp only [c1, c2, c3, decide_true, Bool.and_self] at he
              unfold makeSliceR at he
              cases hl : (opd G l).run A with
              | none => simp [hl, retH] at he
              | some lv =>
                cases hc : (opd G c).run A with
                | none =>
                  rw [hl, hc] at he
                  split at he
                  · rename_i q; simp at q
                  · simp [retH] at he
                | some cv =>
                  have hlv := opd_ok hg hf hl
                  have hcv := opd_ok hg hf hc
                  rw [hl, hc] at he
                  split at he
                  · rename_i k n k2 m q1 q2
                    simp at q1 q2
                    subst q1; subst q2
                    rw [ble_iff] at he
                    by_cases c4 : n ≤ m
                    · cases c5 : small m i.bytes with
                      | false => simp [c5, retH] at he
                      | true =>
                        simp [c4, c5, retH] at he
                        obtain ⟨rfl, rfl⟩ := he
                        obtain ⟨b1, b2⟩ := small_some c5
                        generalize hq1 : a.eval l = cl at hlv
                        generalize hq2 : a.eval c = cc at hcv
                        cases hlv; cases hcv
                        obtain ⟨zv, hz1, hz2⟩ := run_zero h3
                        have hzr := ofValue_ok (pl := pl) (M := M) hz2
                        have hsz : szOf P e = some i.size := by simp [szOf, h2]
                        let p : Place := ⟨w.heap.size, 0, i.size, m, m * i.size⟩
                        have hext : Ext pl (upd pl h.n p) := fun id q hq => ⟨q, by rw [upd_other (by have := hr.dom id q hq; omega)]; exact hq, Nat.le_refl _, fun _ => rfl⟩
                        have hin := (inMem_replicate hzr c3 m c1 c2).mono hext (fun _ _ h => h)
                        let cells := (Array.range (m * i.size)).map (zv.cells[· % zv.cells.size]!)
                        obtain ⟨r1, r2⟩ := Rep.alloc (o := .row i.size false 0 (List.replicate m z)) (ob := .cells cells e) (p := p) (w' := { w with heap := w.heap.push (.cells cells e) }) hr rfl (WSame.push _ _) rfl
                          ⟨rfl, rfl, by simp [p], by simp [p, cells], rfl, c2, fun _ => by simp [cells], hin⟩
                        have hrun : (Instr.makeSlice t (.int k (n : Int)) (.int k2 (m : Int))).run P w = .ok (.slice (some ⟨w.heap.size, 0, none⟩) n m) { w with heap := w.heap.push (.cells cells e) } := by
                          exact run_makeSlice (elemOf_some h1) h2 hz1 c4 b1 b2 _ _ _
                        refine ⟨_, M, _, _, _, ?_, .inl rfl, .slice (a := ⟨w.heap.size, 0, none⟩) (upd_same _ _ _) (Nat.le_refl _) (by omega) (fun k hk => by simpa using hk) (fun _ => ⟨.inr (by simp [p]), by simp [p], by simp [p]; omega, (fun hk => by cases hk), (fun k hk => by simp at hk; simp [p]; omega)⟩), r1, r2, by show h.n ≤ h.n + 1; omega⟩
                        simp only [execOp, hq1, hq2, Sem.run_bind]
                        rw [hrun]
                        rfl
                    · simp [c4, retH] at he
                  · simp [retH] at he
            · simp only [c3] at he; simp at he; exact (fail_run he).elim
          · simp only [c2] at he; simp at he; exact (fail_run he).elim
        · simp only [c1] at he; simp at he; exact (fail_run he).elim
end
end Go.Ev

/- Literals of structs, arrays and slices; conversions; lengths; ranging over a text. -/
namespace Go.Ev
open Go

section
variable {P : Program} {G : Env} {pl : Pl} {M : Mem} {h h' : AHeap} {w w' : World} {v : AV} {A : Fr} {a : Act}

theorem zip_over : ∀ (l : List Value) (off k : Nat) (c : Array Value), off + k + l.length ≤ c.size → (l.zipIdx k).foldl (fun cs (x : Value × Nat) => cs.setIfInBounds (off + x.2) x.1) c = over c (off + k) l
  | [], off, k, c, _ => by simp [over]
  | v :: r, off, k, c, hl => by
    simp only [List.length_cons] at hl
    rw [List.zipIdx_cons, List.foldl_cons, zip_over r off (k + 1) _ (by simp; omega)]
    exact over_cons (by omega)

theorem zip_over' {v : Value} {off : Nat} {c : Array Value} (hl : off + v.cells.size ≤ c.size) :
    v.cells.zipIdx.foldl (fun cs (x : Value × Nat) => cs.setIfInBounds (off + x.2) x.1) c = over c off v.cells.toList := by
  rw [← Array.foldl_toList, Array.toList_zipIdx]
  exact zip_over v.cells.toList off 0 c (by simpa using hl)

theorem vrels_over {cs new : List AV} {vs nv : Array Value} {off : Nat} (h1 : VRels pl M cs vs) (h2 : VRels pl M new nv) (hl : off + new.length ≤ cs.length) : VRels pl M (splice cs off new) (over vs off nv.toList) := by
  have e1 := h1.len
  have e2 := h2.len
  have hl2 : off + nv.toList.length ≤ vs.size := by simp; omega
  refine ⟨by rw [splice_length hl, over_size hl2]; exact e1, fun j y hj => ?_⟩
  rcases splice_get hl hj with ⟨a1, a2, a3⟩ | ⟨a1, a2⟩
  · have e3 : j = off + (j - off) := by omega
    rw [e3, over_getD_in hl2 (by simp; omega), toList_getD]
    exact h2.at_ _ _ a3
  · rw [over_getD_out hl2 (by simp; omega)]
    exact h1.at_ _ _ a2

theorem sc_splice {cs new : List AV} {off : Nat} (h1 : ∀ y, y ∈ cs → scalB y = true) (h2 : ∀ y, y ∈ new → scalB y = true) : ∀ y, y ∈ splice cs off new → scalB y = true := by
  intro y hy
  simp only [splice, List.mem_append] at hy
  rcases hy with (hy | hy) | hy
  · exact h1 y (List.mem_of_mem_take hy)
  · exact h2 y hy
  · exact h1 y (List.mem_of_mem_drop hy)

/-- The parts of a literal, as the model lays them. -/
theorem fill_ok {place : Nat → Option (Nat × Nat)} (hg : GOk G pl M) (hf : FrRel pl M A a) : ∀ (parts : List (Nat × Operand)) (l : List ((Nat × Nat) × Operand)) (cs : List AV) (vs : Array Value) (out : List AV),
    (∀ (k : Nat) (p : Nat × Operand), parts[k]? = some p → ∃ q, l[k]? = some (q, p.2) ∧ place p.1 = some q) → l.length = parts.length → VRels pl M cs vs → (∀ y, y ∈ cs → scalB y = true) →
    fillR cs (l.map fun p => (p.1, (opd G p.2).run A)) = some out → ∃ cv, Instr.fill place vs (parts.map fun p => (p.1, a.eval p.2)) = some cv ∧ VRels pl M out cv ∧ ∀ y, y ∈ out → scalB y = true
  | [], [], cs, vs, out, _, _, hv, hs, e => by simp [fillR] at e; subst e; exact ⟨vs, rfl, hv, hs⟩
  | [], _ :: _, _, _, _, _, hl, _, _, _ => by simp at hl
  | _ :: _, [], _, _, _, _, hl, _, _, _ => by simp at hl
  | (i, x) :: r, ((off, sz), y) :: l, cs, vs, out, hp, hl, hv, hs, e => by
    obtain ⟨q, h1, h2⟩ := hp 0 (i, x) rfl
    simp at h1
    obtain ⟨rfl, rfl⟩ := h1
    simp only [List.map_cons, fillR] at e
    cases hx : (opd G y).run A with
    | none => simp [hx, fillR] at e
    | some u =>
      simp only [hx, fillR, beq_iff, ble_iff] at e
      split at e
      · rename_i hc
        simp at hc
        obtain ⟨⟨c1, c2⟩, c3⟩ := hc
        have hu := opd_ok hg hf hx
        have huc := hu.cells
        have hul := huc.len
        have hvl := hv.len
        have h3 := vrels_over (off := off) hv huc (by omega)
        obtain ⟨cv, k1, k2, k3⟩ := fill_ok (place := place) hg hf r l _ _ out (fun k p hk => by simpa using hp (k + 1) p (by simpa using hk)) (by simpa using hl) h3 (sc_splice hs (hu.sc c3)) e
        refine ⟨cv, ?_, k2, k3⟩
        have c4 : (a.eval y).cells.size = sz := by rw [← hul]; exact c1
        have c5 : ¬ (vs.size < off + (a.eval y).cells.size) := by omega
        rw [List.map_cons, Instr.fill]
        simp only [h2]
        rw [if_neg (by simp [c4]; omega)]
        rw [zip_over' (by omega)]
        exact k1
      · simp at e

theorem mapM_places (fs : List Field) (l : List (Nat × Nat)) (w : World) (h : placesOf P fs = some l) : ((fs.mapM fun f => (do pure (f.offset, ← sizeOf f.type) : Sem (Nat × Nat)))).run P w = .ok l w := by
  induction fs generalizing l with
  | nil => simp [placesOf] at h; subst h; simp
  | cons f r ih =>
    simp only [placesOf] at h
    cases h1 : szOf P f.type with
    | none => simp [h1] at h
    | some s =>
      cases h2 : placesOf P r with
      | none => simp [h1, h2] at h
      | some l2 =>
        simp [h1, h2] at h
        subst h
        rw [List.mapM_cons]
        simp only [Sem.run_bind, run_sizeOf h1, Result.andThen_ok, Sem.run_pure]
        have := ih l2 h2
        rw [this]; rfl

theorem partsAt_ok {pls : List (Nat × Nat)} : ∀ (parts : List (Nat × Operand)) (l : List ((Nat × Nat) × Operand)), partsAt pls parts = some l → l.length = parts.length ∧ ∀ (k : Nat) (p : Nat × Operand), parts[k]? = some p → ∃ q : Nat × Nat, l[k]? = some (q, p.2) ∧ pls.toArray[p.1]? = some q
  | [], l, e => by
    simp [partsAt] at e
    subst e
    refine ⟨rfl, ?_⟩
    intro k p h
    simp at h
  | (i, x) :: r, l, e => by
    simp only [partsAt, nth_eq] at e
    cases h1 : pls[i]? with
    | none => simp [h1] at e
    | some p =>
      cases h2 : partsAt pls r with
      | none => simp [h1, h2] at e
      | some l2 =>
        simp [h1, h2] at e
        subst e
        obtain ⟨a1, a2⟩ := partsAt_ok r l2 h2
        refine ⟨by simp [a1], fun k q hk => ?_⟩
        cases k with
        | zero => simp at hk; subst hk; exact ⟨p, rfl, by simpa using h1⟩
        | succ k => simpa using a2 k q (by simpa using hk)

theorem aggOf_some {o : Option (List AV)} {v : AV} (e : aggOf o = some v) : ∃ cs, o = some cs ∧ v = .agg cs := by
  cases o <;> simp [aggOf] at e
  exact ⟨_, rfl, e.symm⟩

theorem zero_cells {t : TypeId} {z : AV} {zv : Value} (ho : ofValue zv = some z) : VRels pl M z.cells zv.cells := (ofValue_ok ho).cells

theorem zero_flat {zv : Value} {z : AV} (ho : ofValue zv = some z) (hf : flatB z = true) : ∀ y, y ∈ z.cells → scalB y = true := (ofValue_ok (pl := fun _ => none) (M := fun _ => none) ho).sc hf

theorem ok_build (t : TypeId) (parts : Array (Nat × Operand)) : OkOp P G (.build t parts) := by
  intro pl M A h v h' a w dst ty pos after guard hg hr hf he
  simp only [opR] at he
  have key : ∀ (place : Nat → Option (Nat × Nat)) (l : List ((Nat × Nat) × Operand)), (∀ (k : Nat) (p : Nat × Operand), parts.toList[k]? = some p → ∃ q, l[k]? = some (q, p.2) ∧ place p.1 = some q) → l.length = parts.toList.length →
      (aggR P G t l).run A h = some (.val v h') → (∀ zv cv, (∀ w, (zeroValue t).run P w = .ok zv w) → Instr.fill place zv.cells (parts.toList.map fun p => (p.1, a.eval p.2)) = some cv →
        (Instr.build t (parts.map fun (i, x) => (i, a.eval x))).run P w = .ok (.agg cv) w) → Out pl M h w ((execOp a.eval ⟨dst, .build t parts, ty, pos, after, guard⟩).run P w) v h' := by
    intro place l hpl hlen e hrun
    unfold aggR at e
    cases hz : zeroA P t with
    | none => simp only [hz] at e; exact (fail_run e).elim
    | some z =>
      simp only [hz] at e
      cases hfz : flatB z with
      | false => simp only [hfz] at e; exact (fail_run e).elim
      | true =>
        simp only [hfz] at e
        obtain ⟨u, e1, e2⟩ := retV_some e
        simp at e2
        obtain ⟨rfl, rfl⟩ := e2
        obtain ⟨cs, e3, rfl⟩ := aggOf_some e1
        obtain ⟨zv, hz1, hz2⟩ := run_zero hz
        obtain ⟨cv, k1, k2, k3⟩ := fill_ok (place := place) hg hf parts.toList l _ _ cs hpl hlen (zero_cells (t := t) hz2) (zero_flat hz2 hfz) e3
        have := hrun zv cv hz1 k1
        simpa [execOp, this] using Out.pure hr (.agg k2.len k3 k2.at_)
  have emap : (parts.map fun (i, x) => (i, a.eval x)).toList = parts.toList.map fun p => (p.1, a.eval p.2) := by simp
  cases hu : P.underlying t with
  | none => simp only [hu] at he; exact (fail_run he).elim
  | some d =>
    rw [hu] at he
    cases d <;> try exact (fail_run he).elim
    case struct fs =>
      cases h1 : placesOf P fs.toList with
      | none => simp only [h1] at he; exact (fail_run he).elim
      | some pls =>
        cases h2 : partsAt pls parts.toList with
        | none => simp only [h1, h2] at he; exact (fail_run he).elim
        | some l =>
          simp only [h1, h2] at he
          obtain ⟨b1, b2⟩ := partsAt_ok _ _ h2
          refine key (fun i => pls.toArray[i]?) l b2 b1 he fun zv cv hz hfill => ?_
          have hm : (fs.mapM fun f => (do pure (f.offset, ← sizeOf f.type) : Sem (Nat × Nat))).run P w = .ok pls.toArray w := by
            rw [Array.mapM_eq_mapM_toList, Sem.run_map, mapM_places _ _ _ h1]; rfl
          simp only [Instr.build, Sem.run_bind, hz, Result.andThen_ok, run_underlying hu, hm, emap, hfill]
          rfl
    case array n e =>
      cases h1 : szOf P e with
      | none => simp only [h1] at he; exact (fail_run he).elim
      | some s =>
        simp only [h1] at he
        refine key (fun i => some (i * s, s)) _ (fun k p hk => ⟨(p.1 * s, s), by simp [hk], rfl⟩) (by simp) he fun zv cv hz hfill => ?_
        simp only [Instr.build, Sem.run_bind, hz, Result.andThen_ok, run_underlying hu, run_sizeOf h1, emap, hfill]
        rfl

theorem psOf_some {o : Option (List AV)} {v : AV} (e : psOf o = some v) : ∃ cs, o = some cs ∧ v = .ps cs true := by
  cases o <;> simp [psOf] at e
  exact ⟨_, rfl, e.symm⟩

theorem sets_ok {s : Nat} (hs0 : 0 < s) (hg : GOk G pl M) (hf : FrRel pl M A a) : ∀ (parts : List (Nat × Operand)) (xs out : List AV) (c : Array Value), InMem pl M c 0 s xs →
    setsR s xs (parts.map fun p => (p.1, (opd G p.2).run A)) = some out → ∃ c', Instr.fill (fun i => some (i * s, s)) c (parts.map fun p => (p.1, a.eval p.2)) = some c' ∧ InMem pl M c' 0 s out ∧ out.length = xs.length ∧ c'.size = c.size
  | [], xs, out, c, hm, e => by simp [setsR] at e; subst e; exact ⟨c, rfl, hm, rfl, rfl⟩
  | (i, x) :: r, xs, out, c, hm, e => by
    simp only [List.map_cons, setsR] at e
    cases hx : (opd G x).run A with
    | none => simp [hx, setsR] at e
    | some u =>
      simp only [hx, setsR, beq_iff, blt_iff] at e
      split at e
      · rename_i hc
        simp at hc
        obtain ⟨⟨c1, c2⟩, c3⟩ := hc
        have hu := opd_ok hg hf hx
        have hxi : xs[i]? = some xs[i] := List.getElem?_eq_getElem c1
        have hel := hm.elem xs[i] (List.getElem_mem c1)
        obtain ⟨k1, k2⟩ := hm.put (off := 0) (z := u) hxi hu (by omega) (by omega) (hu.sc c3) (fun j q hq => by
          have := (List.getElem?_eq_some_iff.1 hq).1
          exact .inl ⟨by omega, by omega, by simpa using hq⟩)
        have hul := hu.cells.len
        simp only [Nat.add_zero] at k1 k2
        obtain ⟨c', q1, q2, q3, q4⟩ := sets_ok hs0 hg hf r _ out _ k2 e
        refine ⟨c', ?_, q2, by rw [q3]; simp, by rw [q4, over_size k1]⟩
        have c4 : (a.eval x).cells.size = s := by rw [← hul]; exact c2
        have c5 : i * s + (a.eval x).cells.size ≤ c.size := by simpa using k1
        rw [List.map_cons, Instr.fill]
        simp only []
        rw [if_neg (by simp [c4]; omega)]
        rw [zip_over' c5]
        exact q1
      · simp at e

theorem ok_buildSlice (t : TypeId) (n : Nat) (parts : Array (Nat × Operand)) : OkOp P G (.buildSlice t n parts) := by
  intro pl M A h v h' a w dst ty pos after guard hg hr hf he
  simp only [opR] at he
  cases h1 : elemOfSlice P t with
  | none => simp only [h1] at he; exact (fail_run he).elim
  | some e =>
    cases h2 : szOf P e with
    | none => simp only [h1, h2] at he; exact (fail_run he).elim
    | some s0 =>
      cases s0 with
      | zero => simp only [h1, h2] at he; exact (fail_run he).elim
      | succ s0 =>
        cases h3 : zeroA P e with
        | none => simp only [h1, h2, h3] at he; exact (fail_run he).elim
        | some z =>
          simp only [h1, h2, h3, beq_iff, ble_iff] at he
          generalize hs : s0 + 1 = s at *
          have hs0 : 0 < s := by omega
          split at he
          · rename_i hc
            simp at hc
            obtain ⟨⟨c1, c2⟩, c3⟩ := hc
            obtain ⟨u, e1, e2⟩ := retV_some he
            simp at e2
            obtain ⟨rfl, rfl⟩ := e2
            obtain ⟨cs, e3, rfl⟩ := psOf_some e1
            obtain ⟨zv, hz1, hz2⟩ := run_zero h3
            have hin := inMem_replicate (ofValue_ok (pl := pl) (M := M) hz2) c3 n c1 hs0
            obtain ⟨c', q1, q2, q3, q4⟩ := sets_ok hs0 hg hf parts.toList _ cs _ hin e3
            obtain ⟨r1, r2⟩ := Rep.immNew (c := c') (t := e) (fr := (0, 0)) (w' := { w with heap := w.heap.push (.cells c' e) }) hr rfl (WSame.push _ _)
            have hmx : MExt M (updM M w.heap.size c') := r2.mem
            have emap : (parts.map fun (i, x) => (i, a.eval x)).toList = parts.toList.map fun p => (p.1, a.eval p.2) := by simp
            have hlen : cs.length = n := by rw [q3]; simp
            have hrun : (Instr.buildSlice t n (parts.map fun (i, x) => (i, a.eval x))).run P w = .ok (.slice (some ⟨w.heap.size, 0, none⟩) n n) { w with heap := w.heap.push (.cells c' e) } := by
              have g1 : ¬ (16777216 < n * s) := by omega
              by_cases g8 : n * s = 0
              · have hn0 : n = 0 := by
                  rcases Nat.mul_eq_zero.1 g8 with h9 | h9
                  · exact h9
                  · omega
                subst hn0
                simp only [Nat.zero_mul] at q1
                have hr0 : (Array.map (fun x => zv.cells[x % zv.cells.size]!) (Array.range 0)) = (Array.map (fun x => (#[] : Array Value)[x % (#[] : Array Value).size]!) (Array.range 0)) := by simp [Array.range_zero']
                rw [hr0] at q1
                simp only [Instr.buildSlice, Sem.run_bind, run_underlying (elemOf_some h1), Result.andThen_ok, run_sizeOf h2, Nat.zero_mul, Sem.run_ite, if_true, Sem.run_pure, emap, newRow]
                rw [if_neg (by decide)]
                simp only [Sem.run_pure, Result.andThen_ok, q1]
                simp
              · simp only [Instr.buildSlice, Sem.run_bind, run_underlying (elemOf_some h1), Result.andThen_ok, run_sizeOf h2, Sem.run_ite, if_neg g8, hz1, emap, newRow]
                rw [if_neg (by omega)]
                simp only [Sem.run_pure, Result.andThen_ok, q1]
                simp
            refine ⟨pl, _, _, _, _, by simp only [execOp, Sem.run_bind, hrun, Result.andThen_ok]; rfl, .inl rfl, ?_, r1, r2, Nat.le_refl _⟩
            rw [← hlen]
            refine .ps (sz := s) (c := c') (Nat.le_refl _) (fun _ => rfl) (fun _ => ⟨rfl, by simp [updM], by have := q2.fit; simpa using this, hs0⟩) q2.elem (fun i x j y hi hj => ?_)
            have := (q2.cell i x j y hi hj).mono (Ext.refl _) hmx
            simpa using this
          · exact (fail_run he).elim
end
end Go.Ev

/- What a slice value shows; conversions; len, cap, min, max; ranging over a text. -/
namespace Go.Ev
open Go

section
variable {P : Program} {G : Env} {pl : Pl} {M : Mem} {h h' : AHeap} {w w' : World} {v : AV} {A : Fr} {a : Act}

theorem fits_ok {sz : Nat} : ∀ {xs : List AV}, fits sz xs = true → ∀ x, x ∈ xs → x.cells.length = sz ∧ flatB x = true
  | [], _, x, hx => by cases hx
  | y :: r, e, x, hx => by
    simp only [fits, beq_iff, Bool.and_eq_true, decide_eq_true_eq] at e
    rcases List.mem_cons.1 hx with rfl | hx
    · exact e.1
    · exact fits_ok e.2 x hx

/-- A stretch of a block's cells. -/
def cut (c : Array Value) (o n : Nat) : List Value := (List.range n).map fun j => c.getD (o + j) undef

theorem cut_length (c : Array Value) (o n : Nat) : (cut c o n).length = n := by simp [cut]
theorem cut_get {c : Array Value} {o n j : Nat} (hj : j < n) : (cut c o n)[j]? = some (c.getD (o + j) undef) := by simp [cut, hj]

theorem ps_src (hr : Rep pl M h w) {ys : List AV} {tight : Bool} {cx : Value} (hx : VRel pl M (.ps ys tight) cx) :
    ∃ (ad : Addr) (cap' : Nat) (news : List Value) (sz : Nat), cx = .slice (some ad) ys.length cap' ∧ news.length = ys.length * sz ∧ (∀ (j : Nat) (u : Value), news[j]? = some u → w.cell? (ad.add j) = some u) ∧
      (ys ≠ [] → 0 < sz) ∧ InMem pl M news.toArray 0 sz ys := by
    cases hx with
    | ps hl ht hm hs hc =>
      rename_i ad cap sz c
      by_cases hne : ys = []
      · subst hne
        exact ⟨ad, cap, [], sz, rfl, by simp, fun j u hj => by simp at hj, fun hh => absurd rfl hh, ⟨by simp, (fun x hx => by cases hx), (fun i x j y hi => by simp at hi)⟩⟩
      · obtain ⟨h1, h2, h3, h4⟩ := hm hne
        obtain ⟨t, fr, hb⟩ := hr.imm _ _ h2
        have had : ad = ⟨ad.block, ad.off, none⟩ := by cases ad; simp at h1; subst h1; rfl
        refine ⟨ad, cap, cut c ad.off (ys.length * sz), sz, rfl, cut_length _ _ _, fun j u hj => ?_, fun _ => h4, ⟨by simp [cut_length], hs, fun i x j y hi hj => ?_⟩⟩
        · have hlt := (List.getElem?_eq_some_iff.1 hj).1
          rw [cut_length] at hlt
          rw [cut_get hlt] at hj
          rw [had, Addr.add_lit, ← hj]
          exact cell_of hb (by omega)
        · have hii := (List.getElem?_eq_some_iff.1 hi).1
          have hjj := (List.getElem?_eq_some_iff.1 hj).1
          rw [(hs x (List.mem_of_getElem? hi)).1] at hjj
          have h5 : (i + 1) * sz ≤ ys.length * sz := Nat.mul_le_mul_right _ hii
          rw [Nat.add_mul] at h5
          have h6 := hc i x j y hi hj
          rw [Array.getD_eq_getD_getElem?, List.getElem?_toArray, cut_get (by omega), Option.getD_some]
          rw [show ad.off + (0 + i * sz + j) = ad.off + i * sz + j by omega]
          exact h6

/-- The elements that a slice value shows lie in memory as the model reads them. -/
theorem elems_src (hr : Rep pl M h w) {x : AV} {cx : Value} {xs : List AV} (hx : VRel pl M x cx) (he : elemsR h x = some xs) :
    (cx = .slice none 0 0 ∧ xs = []) ∨ ∃ (ad : Addr) (cap' : Nat) (news : List Value) (sz : Nat), cx = .slice (some ad) xs.length cap' ∧ news.length = xs.length * sz ∧ (∀ (j : Nat) (u : Value), news[j]? = some u → w.cell? (ad.add j) = some u) ∧
      (xs ≠ [] → 0 < sz) ∧ InMem pl M news.toArray 0 sz xs := by
  unfold elemsR at he
  split at he
  · simp at he; subst he; cases hx; exact .inl ⟨rfl, rfl⟩
  · rename_i ys tight
    simp at he; subst he
    exact .inr (ps_src hr hx)
  · rename_i ys
    simp at he; subst he
    cases hx with
    | lsn => exact .inl ⟨rfl, rfl⟩
    | lsp hx _ => exact .inr (ps_src hr hx)
  · rename_i id ep off len cap
    split at he
    · rename_i sz op ep' ys hg
      rw [beq_iff] at he
      by_cases hep : ep = ep'
      · subst hep
        simp at he
        subst he
        obtain ⟨p, c, t, ad, cap', q1, rfl, q3, q4, q5, q6, q7, q8, q9, q10, q11, q12, q13, q14, q15, q16, q17⟩ := slice_at hr hx hg
        right
        have hlen : ((ys.drop off).take len).length = len := by simp; omega
        by_cases h0 : len = 0
        · subst h0
          refine ⟨ad, cap', [], sz, by simp, by simp, fun j u hj => by simp at hj, fun hh => by simp at hh, ⟨by simp, (fun x hx => by simp at hx), (fun i x j y hi => by simp at hi)⟩⟩
        · have had : ad = ⟨p.blk, off * sz, none⟩ := by
            rcases q13 with h9 | h9
            · omega
            · exact h9
          have hget : ∀ (i : Nat) (x : AV), ((ys.drop off).take len)[i]? = some x → i < len ∧ ys[off + i]? = some x := by
            intro i x hi
            have := (List.getElem?_eq_some_iff.1 hi).1
            rw [hlen] at this
            rw [List.getElem?_take_of_lt this, List.getElem?_drop] at hi
            exact ⟨this, hi⟩
          have hfit2 : off * sz + len * sz ≤ c.size := by
            have := q10.fit
            have h7 : (off + len) * sz ≤ ys.length * sz := Nat.mul_le_mul_right _ q15
            rw [Nat.add_mul] at h7
            omega
          refine ⟨ad, cap', cut c (off * sz) (len * sz), sz, by rw [hlen], by rw [cut_length, hlen], fun j u hj => ?_, fun _ => q8, ⟨by simp [cut_length]; exact Nat.mul_le_mul_right _ (by omega), fun x hx => q10.elem x (List.mem_of_mem_drop (List.mem_of_mem_take hx)), fun i x j y hi hj => ?_⟩⟩
          · have hlt := (List.getElem?_eq_some_iff.1 hj).1
            rw [cut_length] at hlt
            rw [cut_get hlt] at hj
            rw [had, Addr.add_lit, ← hj]
            exact cell_of q3 (by omega)
          · obtain ⟨hii, hyi⟩ := hget i x hi
            have hjj := (List.getElem?_eq_some_iff.1 hj).1
            rw [(q10.elem x (List.mem_of_getElem? hyi)).1] at hjj
            have h5 : (i + 1) * sz ≤ len * sz := Nat.mul_le_mul_right _ hii
            rw [Nat.add_mul] at h5
            have h6 := q10.cell (off + i) x j y hyi hj
            rw [Array.getD_eq_getD_getElem?, List.getElem?_toArray, cut_get (by omega), Option.getD_some]
            rw [show off * sz + (0 + i * sz + j) = 0 + (off + i) * sz + j by rw [Nat.add_mul]; omega]
            exact h6
      · simp [hep] at he
    · simp at he
  · simp at he

theorem bytesR_ok : ∀ (xs : List AV) (l : List UInt8), bytesR xs = some l → xs = l.map fun b => .int .u8 (b.toNat : Int)
  | [], l, e => by simp [bytesR] at e; subst e; rfl
  | x :: r, l, e => by
    unfold bytesR at e
    split at e
    · rename_i e0; simp at e0
    · rename_i n r' e0
      simp at e0
      obtain ⟨rfl, rfl⟩ := e0
      rw [blt_iff] at e
      split at e
      · rename_i hn
        simp at hn
        split at e
        · rename_i l' hl'
          simp at e
          subst e
          rw [bytesR_ok r l' hl']
          have : (UInt8.ofNat n).toNat = n := by simp [UInt8.toNat_ofNat']; omega
          simp [this]
        · simp at e
      · simp at e
    · simp at e

theorem push_bytes (l : List UInt8) : ∀ (s : List UInt8), (l.map fun b => (b.toNat : Int)).foldl (fun (r : ByteArray) n => r.push (UInt8.ofNat n.toNat)) ⟨⟨s⟩⟩ = ⟨⟨s ++ l⟩⟩ := by
  induction l with
  | nil => intro s; simp
  | cons b r ih =>
    intro s
    simp only [List.map_cons, List.foldl_cons]
    have : (⟨⟨s⟩⟩ : ByteArray).push (UInt8.ofNat ((b.toNat : Int)).toNat) = ⟨⟨s ++ [b]⟩⟩ := by
      apply ByteArray.ext
      simp [ByteArray.push]
    rw [this, ih (s ++ [b])]
    simp

theorem heap_push_of {w' : World} {o : Obj} (hsz : w'.heap.size = w.heap.size + 1) (hold : ∀ b, b < w.heap.size → w'.heap[b]? = w.heap[b]?) (hnew : w'.heap[w.heap.size]? = some o) : w'.heap = w.heap.push o := by
  apply Array.ext_getElem?
  intro b
  rcases Nat.lt_trichotomy b w.heap.size with hb | hb | hb
  · rw [hold b hb, push_old hb]
  · subst hb; rw [hnew, push_new]
  · rw [Array.getElem?_eq_none (by omega), Array.getElem?_eq_none (by rw [Array.size_push]; omega)]

theorem ok_convert (s d : TypeId) (x : Operand) : OkOp P G (.convert s d x) := by
  intro pl M A h v h' a w dst ty pos after guard hg hr hf he
  simp only [opR] at he
  unfold convOp at he
  have fin : ∀ cv, (convert s d (a.eval x)).run P w = .ok cv w → VRel pl M v cv → h' = h → Out pl M h w ((execOp a.eval ⟨dst, .convert s d x, ty, pos, after, guard⟩).run P w) v h' := by
    intro cv h1 h2 h3
    subst h3
    simpa [execOp, h1] using Out.pure hr h2
  split at he
  · rename_i ds k hs hd
    obtain ⟨u, e1, e2⟩ := retV_some he
    simp at e2
    obtain ⟨rfl, rfl⟩ := e2
    cases hx : (opd G x).run A with
    | none => simp [hx, convInt] at e1
    | some xv =>
      have hxv := opd_ok hg hf hx
      rw [hx] at e1
      cases xv <;> simp [convInt] at e1
      subst e1
      generalize hq : a.eval x = cx at hxv
      cases hxv
      exact fin _ (by simp [hq, convert, run_underlying hs, run_underlying hd, Conv.intToInt]) (.int _ _) rfl
  · rename_i e hs hd
    split at he
    · rename_i hu
      obtain ⟨u, e1, e2⟩ := retV_some he
      simp at e2
      obtain ⟨rfl, rfl⟩ := e2
      cases hx : (opd G x).run A with
      | none => simp [hx, convBytesStr] at e1
      | some xv =>
        have hxv := opd_ok hg hf hx
        rw [hx] at e1
        simp only [convBytesStr] at e1
        cases hel : elemsR h' xv with
        | none => simp [hel] at e1
        | some xs =>
          rw [hel] at e1
          cases hb : bytesR xs with
          | none => simp [hb] at e1
          | some l =>
            simp [hb] at e1
            subst e1
            have hxs := bytesR_ok xs l hb
            rcases elems_src hr hxv hel with ⟨h1, h2⟩ | ⟨ad, cap', news, sz, h1, h2, h3, h4, h5⟩
            · subst h2
              have hl : l = [] := by cases l with
                | nil => rfl
                | cons b r => simp at hxs
              subst hl
              exact fin (.string ⟨⟨[]⟩⟩) (by rw [h1]; simp [convert, run_underlying hs, run_underlying hd, run_underlying hu, Conv.bytesToString]; rfl) (.str _) rfl
            · have hnews : news = l.map fun b => Value.int .u8 (b.toNat : Int) := by
                by_cases hne : xs = []
                · subst hne
                  have hl : l = [] := by cases l with
                    | nil => rfl
                    | cons b r => simp at hxs
                  subst hl
                  simp at h2
                  simpa using h2
                · have hs1 : sz = 1 := by
                    cases l with
                    | nil => subst hxs; exact absurd rfl hne
                    | cons b r =>
                      have := (h5.elem (.int .u8 (b.toNat : Int)) (by rw [hxs]; simp)).1
                      rw [← this]; rfl
                  subst hs1
                  rw [hxs] at h2 h5
                  apply List.ext_getElem?
                  intro j
                  by_cases hj : j < l.length
                  · have h6 : (l.map fun b => AV.int .u8 (b.toNat : Int))[j]? = some (.int .u8 (l[j].toNat : Int)) := by simp [hj]
                    have h7 := h5.cell j _ 0 _ h6 rfl
                    rw [Array.getD_eq_getD_getElem?, List.getElem?_toArray] at h7
                    have hjn : j < news.length := by rw [h2]; simpa using hj
                    simp only [Nat.zero_add, Nat.mul_one, Nat.add_zero, List.getElem?_eq_getElem hjn, Option.getD_some] at h7
                    rw [List.getElem?_eq_getElem hjn]
                    generalize news[j] = nj at h7
                    cases h7
                    simp [hj]
                  · rw [List.getElem?_eq_none (by rw [h2]; simp; omega), List.getElem?_eq_none (by simp; omega)]
              have hlen : xs.length = l.length := by rw [hxs]; simp
              have hld := run_loadCells_list (P := P) w ad news h3
              have hnl : news.length = xs.length := by rw [hnews]; simp [hlen]
              rw [hnl, hnews] at hld
              have hmm : (l.map fun b => Value.int .u8 (b.toNat : Int)) = (l.map fun b => (b.toNat : Int)).map (Value.int .u8) := by simp
              rw [hmm] at hld
              have hrun := run_bytesToString (P := P) w ad xs.length cap' _ hld
              refine fin (.string ⟨⟨l⟩⟩) ?_ (.str _) rfl
              rw [h1, show convert s d (.slice (some ad) xs.length cap') = convert s d (.slice (some ad) xs.length cap') from rfl]
              have : (convert s d (.slice (some ad) xs.length cap')).run P w = (Conv.bytesToString (.slice (some ad) xs.length cap')).run P w := by
                simp [convert, run_underlying hs, run_underlying hd, run_underlying hu]
              rw [this, hrun]
              have := push_bytes l []
              simp only [List.nil_append] at this
              rw [show ByteArray.empty = ⟨⟨[]⟩⟩ from rfl, this]
    · exact (fail_run he).elim
  · rename_i hs hd
    obtain ⟨u, e1, e2⟩ := retV_some he
    simp at e2
    obtain ⟨rfl, rfl⟩ := e2
    cases hx : (opd G x).run A with
    | none => simp [hx, convStr] at e1
    | some xv =>
      have hxv := opd_ok hg hf hx
      rw [hx] at e1
      cases xv <;> simp [convStr] at e1
      subst e1
      generalize hq : a.eval x = cx at hxv
      cases hxv
      exact fin _ (by simp [hq, convert, run_underlying hs, run_underlying hd]) (.str _) rfl
  · rename_i e hs hd
    split at he
    · rename_i hu
      obtain ⟨u, e1, e2⟩ := retV_some he
      simp at e2
      obtain ⟨rfl, rfl⟩ := e2
      cases hx : (opd G x).run A with
      | none => simp [hx, convStrBytes] at e1
      | some xv =>
        have hxv := opd_ok hg hf hx
        rw [hx] at e1
        cases xv <;> simp only [convStrBytes] at e1 <;> (try (simp at e1; done))
        rename_i l
        rw [ble_iff] at e1
        split at e1
        · simp at e1
          subst e1
          generalize hq : a.eval x = cx at hxv
          cases hxv
          have hrun := Lib.run_convert_string_bytes (P := P) w s d e ⟨⟨l⟩⟩ hs hd hu
          have hheap := heap_push_of (w := w) (Lib.bytesWorld_size w e ⟨⟨l⟩⟩) (fun b hb => Lib.bytesWorld_at_old w e ⟨⟨l⟩⟩ b hb) (Lib.bytesWorld_at_new w e ⟨⟨l⟩⟩)
          obtain ⟨r1, r2⟩ := Rep.immNew hr hheap ⟨rfl, rfl, rfl, by unfold Lib.bytesWorld; (first | exact Nat.le_refl _ | exact Nat.le_succ _ | simp)⟩
          have hsz : (⟨⟨l⟩⟩ : ByteArray).size = l.length := rfl
          have hge := grownCap_ge w l.length 0 e
          refine ⟨pl, _, _, _, _, by simp only [execOp, hq, Sem.run_bind, hrun, Result.andThen_ok]; rfl, .inl rfl, ?_, r1, r2, Nat.le_refl _⟩
          rw [hsz]
          generalize grownCap w l.length 0 e = cap at hge
          have hlm : (l.map fun b => AV.int .u8 (Int.ofNat b.toNat)).length = l.length := by simp
          rw [← hlm]
          refine .ps (sz := 1) (c := Lib.bytesCells w e ⟨⟨l⟩⟩) (by simpa using hge) (fun h => by cases h) (fun _ => ⟨rfl, by simp [updM], by simp [Lib.bytesCells], by omega⟩) (fun x hx => ?_) (fun i x j y hi hj => ?_)
          · simp at hx
            obtain ⟨b, _, rfl⟩ := hx
            exact ⟨rfl, fun y hy => by simp [AV.cells] at hy; subst hy; rfl⟩
          · rw [List.getElem?_map] at hi
            cases hli : l[i]? with
            | none => simp [hli] at hi
            | some b =>
              simp [hli] at hi
              subst hi
              cases j with
              | succ j => simp [AV.cells] at hj
              | zero =>
                simp [AV.cells] at hj
                subst hj
                have hil := (List.getElem?_eq_some_iff.1 hli).1
                have : (Lib.bytesCells w e ⟨⟨l⟩⟩).getD (0 + i * 1 + 0) undef = .int .u8 (b.toNat : Int) := by
                  simp only [Lib.bytesCells, Array.getD_eq_getD_getElem?]
                  rw [Array.getElem?_append_left (by simpa using hil)]
                  simp [hli]
                show VRel pl _ (.int .u8 (b.toNat : Int)) ((Lib.bytesCells w e ⟨⟨l⟩⟩).getD (0 + i * 1 + 0) undef)
                rw [this]
                exact .int _ _
        · simp at e1
    · exact (fail_run he).elim
  · exact (fail_run he).elim
end
end Go.Ev
