/- An abstract machine for closed runs and for walks, proved sound against the model: part 5 of 5. No conditions. -/
import Derived.Test.YtncndbiboobpdaaGreatDoorMach4
import Derived.IntWalk

/- Rules over the abstract machine: calls and writers in regions that draw; objects renumbered. -/
namespace Go.Ev
open Go

section
variable {P : Program} {G : Env} {b : Bool} {ops : Array Oper} {l : List Oper} {o : Oper} {s s' : St} {h h' h1 hv : AHeap} {v : AV} {A A' F : Fr} {call : Caller} {f : FuncId} {args : List AV} {c d : Code} {pl pl' : Pl} {M M' : Mem} {w w' : World} {a : Act} {r : Rec}

theorem shown_callH {nk n0 : Nat} {g : Nat → Option AObj} {W : Nat → Prop} {o : Oper} (hr : RepF pl M nk g w) (hn0 : n0 ≤ hv.n) (hvg : ∀ id o, hv.get id = some o → g id = some o) (ho : ∀ id o, hv.get id = some o → o.top ≤ hv.n)
    (hf : FrRel (cutPl pl hv.n) M A a) (hg : GOk G (cutPl pl hv.n) M) {f : FuncId} {args : List AV} (e : (opR P G o.op).run A hv = some (.call f args)) (e2 : HCall P G f args hv (fun v1 h1 => v1 = v ∧ h1 = h')) (hnk : h'.n = hv.n ∨ h'.n ≤ nk)
    (hU : ∀ id, hv.n ≤ id → id < h'.n → pl id = none) (W1 : ∀ id, id < hv.n → ¬ W id → hv.get id ≠ none → h'.get id = hv.get id)
    (W2 : ∀ id, W id → id < hv.n → hv.get id ≠ none) (W3 : ∀ id, W id → id < h'.n) (W4 : ∀ id, hv.n ≤ id → id < h'.n → W id)
    {K : Act → World → Prop} {Q : Exit → Act → World → Prop}
    (hK : ∀ cv w' pl' M', RepF pl' M' nk (mergeG W g h'.get) w' → StepF n0 g pl M w (mergeG W g h'.get) pl' M' w' → VRel pl' M' v cv → Ext pl pl' → (∀ id, h'.n ≤ id → pl' id = pl id) → K (a.put o.dst cv) w') :
    o.wp P a w K Q := by
  obtain ⟨vs, k1, k2⟩ := ok_call (P := P) (w := w) hg hf e
  have fin : ∀ cv w1, After (cutPl pl hv.n) M hv w v h' cv w1 → K (a.put o.dst cv) w1 := by
    intro cv w1 ⟨pl1, M1, q3, q4, q5, q6⟩
    obtain ⟨r1, r2, r3, r4⟩ := merge hr hn0 hvg q4 q5 q6 hnk hU W1 W2 W3 W4
    exact hK cv w1 _ M1 r1 r2 (q3.mono r3 (fun _ _ h => h)) r4 (fun id hid => by simp [mergePl, Nat.not_lt.2 hid])
  unfold Oper.wp
  rw [k2]
  rcases e2 _ M w vs hg (shown_rep hr hvg ho) k1 with ⟨q1, q2⟩ | ⟨cv, w1, v', h'', q1, ⟨rfl, rfl⟩, q2⟩
  · rw [q1]
    refine Calls.mono q2 fun en w'' ⟨cv, v', h'', e1, hh, e3⟩ => ?_
    obtain ⟨rfl, rfl⟩ := hh
    subst e1
    exact fin cv w'' e3
  · rw [q1]
    exact fin cv w1 q2

/-- A call that leaves the heap as it is. -/
theorem DSpec.callSame (hg : guardR ⟨F.n, lookFr F (o.looksAt ops) .nil⟩ (guardDst ops o) = some true) (e : (opR P G o.op).run ⟨F.n, lookFr F (o.looksAt ops) .nil⟩ h = some (.call f args))
    (ht : topsAt F h.n (o.looksAt ops) = true) (ho : ∀ id o', h.get id = some o' → o'.top ≤ h.n) (hf : HCall P G f args h (fun v1 h1 => v1 = v ∧ h1 = h)) :
    DSpec P G ops o (o.looksAt ops) F h v h ⟨⟨true, [], h.n, h.n⟩, ⟨false, [], 0, 0⟩⟩ := by
  refine ⟨Nat.le_refl _, fun id o' _ hg1 => hg1, fun id k1 k2 => by omega, ?_⟩
  intro nk n0 g pl M a w K Q hn0 hnk hbig hr hvis hU hG hs hdf hF hK
  have hf0 : FrRel pl M ⟨F.n, lookFr F (o.looksAt ops) .nil⟩ a := lookFr_rel hs hdf hF
  rw [guardR_ok hf0 hg]
  simp only [if_true]
  left
  have hvg : ∀ id o, h.get id = some o → g id = some o := fun id o' hh => hvis id o' (.inl ⟨rfl, (AHeap.get_some.1 hh).1⟩) hh
  have hfr := cut_look (M := M) hs hdf ht hF
  refine shown_callH (W := fun _ => False) hr (Nat.le_refl _) hvg ho hfr hG e hf (.inl rfl) (fun id k1 k2 => by omega) (fun _ _ _ _ => rfl) (fun _ h => h.elim) (fun _ h => h.elim) (fun id k1 k2 => by omega) ?_
  intro cv w' pl' M' r1 r2 r3 r4 r5
  refine hK cv w' pl' M' _ r1 (r2.weaken hn0) r3 r4 (fun id hp hh => ?_) (fun id _ => mergeG_out (fun h => h)) (fun id o' hyes => absurd hyes (noneHolds (ids := [])))
  rcases hh with hh | hh
  · exact r2.new id hh hp
  · rw [r5 id hh]; exact hp

/-- A writer. -/
theorem DSpec.write (hg : guardR ⟨F.n, lookFr F (o.looksAt ops) .nil⟩ (guardDst ops o) = some true) {ids : List Nat} (h2 : topsAt F h.n (o.looksAt ops) = true) (h3 : objsAt h h.n ids = true)
    (e : dWriteEnd h ⟨h.n, onlyT h ids .nil⟩ ids ((opR P G o.op).run ⟨F.n, lookFr F (o.looksAt ops) .nil⟩ ⟨h.n, onlyT h ids .nil⟩) = some (v, h1, r)) : DSpec P G ops o (o.looksAt ops) F h v h1 r := by
  refine dWrite_ok (d := ⟨oneOper P G ops o, o.looksAt ops, footOf o.op, kindOf o.op, 0⟩) (ids := ids) rfl ?_ hg
  unfold dWrite
  simp only [h2, h3, Bool.and_true]
  exact e

mutual
/-- The objects under other numbers. -/
def ren (ρ : Nat → Nat) : AV → AV
  | .ptr id a b c => .ptr (ρ id) a b c
  | .slice id a b c d => .slice (ρ id) a b c d
  | .map id => .map (ρ id)
  | .func fn a b => .func fn (rens ρ a) (rens ρ b)
  | .iface t v => .iface t (ren ρ v)
  | .agg cs => .agg (rens ρ cs)
  | .tuple cs => .tuple (rens ρ cs)
  | .ps xs t => .ps (rens ρ xs) t
  | .pptr xs i o => .pptr (rens ρ xs) i o
  | .bool b => .bool b
  | .int k n => .int k n
  | .str s => .str s
  | .nilp => .nilp
  | .nils => .nils
  | .nilm => .nilm
  | .nilf => .nilf
  | .nili => .nili
def rens (ρ : Nat → Nat) : List AV → List AV
  | [] => []
  | x :: r => ren ρ x :: rens ρ r
end

def renEnts (ρ : Nat → Nat) : List AEnt → List AEnt
  | [] => []
  | e :: r => ⟨ren ρ e.key, ren ρ e.val, e.born⟩ :: renEnts ρ r

def renO (ρ : Nat → Nat) : AObj → AObj
  | .row a b c xs => .row a b c (rens ρ xs)
  | .map es c => .map (renEnts ρ es) c
  | o => o

theorem rens_map (ρ : Nat → Nat) : ∀ (xs : List AV), rens ρ xs = xs.map (ren ρ)
  | [] => rfl
  | x :: r => by simp [rens, rens_map ρ r]
theorem renEnts_map (ρ : Nat → Nat) : ∀ (xs : List AEnt), renEnts ρ xs = xs.map fun e => ⟨ren ρ e.key, ren ρ e.val, e.born⟩
  | [] => rfl
  | x :: r => by simp [renEnts, renEnts_map ρ r]

theorem ren_cells (ρ : Nat → Nat) (v : AV) : (ren ρ v).cells = v.cells.map (ren ρ) := by
  cases v <;> simp [ren, AV.cells, rens_map]
theorem ren_scal (ρ : Nat → Nat) (v : AV) : scalB (ren ρ v) = scalB v := by cases v <;> rfl

/-- Where the objects lie, under other numbers. -/
def renPl (ρ : Nat → Nat) (n : Nat) (pl : Pl) : Pl := fun id => if id < n then pl (ρ id) else none

theorem renPl_at {ρ : Nat → Nat} {n id : Nat} {p : Place} (h : id < n) (hp : pl (ρ id) = some p) : renPl ρ n pl id = some p := by simp [renPl, h, hp]

theorem VRel.ren {ρ : Nat → Nat} {n : Nat} {u v : AV} {x : Value} (h : VRel pl M u x) (hu : u = Ev.ren ρ v) (ht : v.top ≤ n) : VRel (renPl ρ n pl) M v x := by
  have elem : ∀ {xs : List AV} {i : Nat} {z : AV}, xs[i]? = some z → (xs.map (Ev.ren ρ))[i]? = some (Ev.ren ρ z) := by
    intro xs i z h; simp [h]
  have cel : ∀ {z y : AV} {j : Nat}, z.cells[j]? = some y → (Ev.ren ρ z).cells[j]? = some (Ev.ren ρ y) := by
    intro z y j h; rw [ren_cells]; simp [h]
  have tp : ∀ {xs : List AV} {i j : Nat} {z y : AV}, AV.tops xs ≤ n → xs[i]? = some z → z.cells[j]? = some y → y.top ≤ n := by
    intro xs i j x y h1 h2 h3
    exact cells_top (tops_le.1 h1 x (List.mem_of_getElem? h2)) (List.mem_of_getElem? h3)
  have sc : ∀ {xs : List AV} {sz : Nat}, (∀ x, x ∈ xs.map (Ev.ren ρ) → x.cells.length = sz ∧ Sc x) → ∀ x, x ∈ xs → x.cells.length = sz ∧ Sc x := by
    intro xs sz h x hx
    obtain ⟨h1, h2⟩ := h (Ev.ren ρ x) (List.mem_map_of_mem hx)
    rw [ren_cells] at h1
    refine ⟨by simpa using h1, fun y hy => ?_⟩
    have := h2 (Ev.ren ρ y) (by rw [ren_cells]; exact List.mem_map_of_mem hy)
    rw [ren_scal] at this; exact this
  induction h generalizing v with
  | bool b => cases v <;> simp [Ev.ren] at hu; subst hu; exact .bool _
  | int k n => cases v <;> simp [Ev.ren] at hu; obtain ⟨rfl, rfl⟩ := hu; exact .int _ _
  | str s => cases v <;> simp [Ev.ren] at hu; subst hu; exact .str _
  | nilp => cases v <;> simp [Ev.ren] at hu; exact .nilp
  | ptr hp he ha =>
    cases v <;> simp [Ev.ren] at hu
    obtain ⟨rfl, rfl, rfl, rfl⟩ := hu
    simp only [AV.top] at ht
    exact .ptr (renPl_at (by omega) hp) he ha
  | pptr hm hs hi hc ih =>
    cases v <;> simp [Ev.ren] at hu
    obtain ⟨h1, rfl, rfl⟩ := hu
    rw [rens_map] at h1
    subst h1
    simp only [AV.top] at ht
    refine .pptr ⟨hm.1, hm.2.1, by simpa using hm.2.2.1, hm.2.2.2⟩ (sc hs) (by simpa using hi) (fun i z j y k1 k2 => ih i _ j _ (elem k1) (cel k2) rfl (tp ht k1 k2))
  | nils => cases v <;> simp [Ev.ren] at hu; exact .nils
  | slice hp he hl hk ha =>
    cases v <;> simp [Ev.ren] at hu
    obtain ⟨rfl, rfl, rfl, rfl, rfl⟩ := hu
    simp only [AV.top] at ht
    exact .slice (renPl_at (by omega) hp) he hl hk ha
  | ps hl ht' hm hs hc ih =>
    cases v <;> simp [Ev.ren] at hu
    obtain ⟨h1, rfl⟩ := hu
    rw [rens_map] at h1
    subst h1
    simp only [AV.top] at ht
    have := VRel.ps (pl := renPl ρ n pl) (by simpa using hl) (by simpa using ht') (by simpa using hm) (sc hs) (fun i z j y k1 k2 => ih i _ j _ (elem k1) (cel k2) rfl (tp ht k1 k2))
    simpa using this
  | nilm => cases v <;> simp [Ev.ren] at hu; exact .nilm
  | map hp ha =>
    cases v <;> simp [Ev.ren] at hu
    subst hu
    simp only [AV.top] at ht
    exact .map (renPl_at (by omega) hp) ha
  | func h1 h2 h3 h4 ih1 ih2 =>
    cases v <;> simp [Ev.ren] at hu
    obtain ⟨rfl, e1, e2⟩ := hu
    rw [rens_map] at e1 e2
    subst e1; subst e2
    simp only [AV.top, mx_le] at ht
    exact .func (by simpa using h1) (by simpa using h2) (fun j y hj => ih1 j _ (elem hj) rfl (tops_le.1 ht.1 y (List.mem_of_getElem? hj))) (fun j y hj => ih2 j _ (elem hj) rfl (tops_le.1 ht.2 y (List.mem_of_getElem? hj)))
  | nilf => cases v <;> simp [Ev.ren] at hu; exact .nilf
  | iface _ ih =>
    cases v <;> simp [Ev.ren] at hu
    obtain ⟨rfl, e1⟩ := hu
    simp only [AV.top] at ht
    exact .iface (ih e1 ht)
  | nili => cases v <;> simp [Ev.ren] at hu; exact .nili
  | agg h1 h2 _ ih =>
    cases v <;> simp [Ev.ren] at hu
    rw [rens_map] at hu
    subst hu
    simp only [AV.top] at ht
    refine .agg (by simpa using h1) (fun y hy => ?_) (fun j y hj => ih j _ (elem hj) rfl (tops_le.1 ht y (List.mem_of_getElem? hj)))
    have := h2 (Ev.ren ρ y) (List.mem_map_of_mem hy)
    rw [ren_scal] at this; exact this
  | tuple h1 _ ih =>
    cases v <;> simp [Ev.ren] at hu
    rw [rens_map] at hu
    subst hu
    simp only [AV.top] at ht
    exact .tuple (by simpa using h1) (fun j y hj => ih j _ (elem hj) rfl (tops_le.1 ht y (List.mem_of_getElem? hj)))

theorem ObjRel.ren {ρ : Nat → Nat} {n : Nat} {o : AObj} {p : Place} {x : Option Obj} (h : ObjRel pl M p (renO ρ o) x) (ht : o.top ≤ n) : ObjRel (renPl ρ n pl) M p o x := by
  match o, x with
  | .dead, _ => trivial
  | .row sz op ep xs, some (.cells c t fr) =>
    obtain ⟨h1, h2, h3, h4, h5, h6, h7, h8⟩ := h
    rw [rens_map] at h3 h7 h8
    simp only [List.length_map] at h3 h7
    simp only [AObj.top] at ht
    refine ⟨h1, h2, h3, h4, h5, h6, h7, ⟨by simpa using h8.fit, fun y hy => ?_, fun i z j y k1 k2 => ?_⟩⟩
    · obtain ⟨q1, q2⟩ := h8.elem (Ev.ren ρ y) (List.mem_map_of_mem hy)
      rw [ren_cells] at q1
      refine ⟨by simpa using q1, fun u hu => ?_⟩
      have := q2 (Ev.ren ρ u) (by rw [ren_cells]; exact List.mem_map_of_mem hu)
      rw [ren_scal] at this; exact this
    · exact (h8.cell i (Ev.ren ρ z) j (Ev.ren ρ y) (by simp [k1]) (by rw [ren_cells]; simp [k2])).ren rfl (cells_top (tops_le.1 ht z (List.mem_of_getElem? k1)) (List.mem_of_getElem? k2))
  | .map es clock, some (.map entries clock') =>
    obtain ⟨h1, h2, h3, h4⟩ := h
    rw [renEnts_map] at h3 h4
    simp only [AObj.top] at ht
    refine ⟨h1, h2, by simpa using h3, fun i e hi => ?_⟩
    obtain ⟨e', k1, k2, k3, k4⟩ := h4 i ⟨Ev.ren ρ e.key, Ev.ren ρ e.val, e.born⟩ (by simp [hi])
    have := entTops_le.1 ht e (List.mem_of_getElem? hi)
    exact ⟨e', k1, k2.ren rfl this.1, k3.ren rfl this.2, k4⟩
  | .siter s pos, some (.stringIter s' pos') => exact h

/-- The state under other numbers: objects that nobody names are left out. -/
theorem SNow.gc {N : Nat} {h0 : AHeap} {pl0 : Pl} {M0 : Mem} {w0 : World} (hG : GTop G) (hb : Base true h0 pl0) (hs : SNow G N h0 pl0 M0 w0 s a w) (ρ : Nat → Nat) (hi : ∀ i j, i < s'.heap.n → j < s'.heap.n → ρ i = ρ j → i = j)
    (hn : s'.tmps.n = s.tmps.n) (hF : ∀ t v, s'.tmps.get t = some v → s.tmps.get t = some (ren ρ v) ∧ v.top ≤ s'.heap.n) (hH : ∀ id o, s'.heap.get id = some o → s.heap.get (ρ id) = some (renO ρ o) ∧ o.top ≤ s'.heap.n) :
    SNow G N h0 pl0 M0 w0 s' a w := by
  obtain ⟨⟨pl, M, g1, g2, g3, g4, g5⟩, hn0, hsm⟩ := hs
  obtain ⟨b1, b2⟩ := hb rfl
  have some_ : ∀ {id p}, renPl ρ s'.heap.n pl id = some p → id < s'.heap.n ∧ pl (ρ id) = some p := by
    intro id p h
    unfold renPl at h
    by_cases q : id < s'.heap.n
    · simp [q] at h; exact ⟨q, h⟩
    · simp [q] at h
  refine ⟨⟨renPl ρ s'.heap.n pl, M, g1.none hG, ⟨fun id p hp => (some_ hp).1, fun id p o hp hg => ?_, fun id p hp => g2.blk _ p (some_ hp).2, fun id id' p p' h1 h2 e => ?_, g2.imm, fun id p hp => g2.sep _ p (some_ hp).2⟩,
    ⟨by rw [hn]; exact g3.size, g3.defers, fun t v ht => ?_⟩, ⟨fun id p hp => by (rw [b2] at hp; cases hp), fun id hid => by omega, g4.mem, g4.size, g4.kept, fun id p hp => ?_, fun id p hp => by (rw [b2] at hp; cases hp), fun id p hp => by (rw [b2] at hp; cases hp), g4.memNew, g4.os, g4.tape, g4.out⟩, by omega⟩, by rw [hn]; exact hn0, hsm⟩
  · obtain ⟨k1, k2⟩ := hH id o hg
    exact (g2.obj _ p _ (some_ hp).2 k1).ren k2
  · exact hi id id' (some_ h1).1 (some_ h2).1 (g2.inj _ _ p p' (some_ h1).2 (some_ h2).2 e)
  · obtain ⟨k1, k2⟩ := hF t v ht
    obtain ⟨k3, k4⟩ := g3.at_ t _ k1
    exact ⟨by rw [hn]; exact k3, k4.ren rfl k2⟩
  · rcases g4.blks _ p (some_ hp).2 with ⟨p0, h1, _⟩ | h1
    · rw [b2] at h1; cases h1
    · exact .inr h1

theorem HCode.gc {Φ : AExit → St → Prop} (hG : GTop G) (ρ : Nat → Nat) (hi : ∀ i j, i < s'.heap.n → j < s'.heap.n → ρ i = ρ j → i = j)
    (hn : s'.tmps.n = s.tmps.n) (hF : ∀ t v, s'.tmps.get t = some v → s.tmps.get t = some (ren ρ v) ∧ v.top ≤ s'.heap.n) (hH : ∀ id o, s'.heap.get id = some o → s.heap.get (ρ id) = some (renO ρ o) ∧ o.top ≤ s'.heap.n)
    (h : HCode P G true c s' Φ) : HCode P G true c s Φ :=
  fun N h0 pl0 M0 w0 a w Q hb hs hQ => h N h0 pl0 M0 w0 a w Q hb (hs.gc hG hb ρ hi hn hF hH) hQ

theorem HOps.gc {Φ : St → Prop} (hG : GTop G) (ρ : Nat → Nat) (hi : ∀ i j, i < s'.heap.n → j < s'.heap.n → ρ i = ρ j → i = j)
    (hn : s'.tmps.n = s.tmps.n) (hF : ∀ t v, s'.tmps.get t = some v → s.tmps.get t = some (ren ρ v) ∧ v.top ≤ s'.heap.n) (hH : ∀ id o, s'.heap.get id = some o → s.heap.get (ρ id) = some (renO ρ o) ∧ o.top ≤ s'.heap.n)
    (h : HOps P G true ops l s' Φ) : HOps P G true ops l s Φ :=
  fun i N h0 pl0 M0 w0 a w Q hb hl hs hQ => h i N h0 pl0 M0 w0 a w Q hb hl (hs.gc hG hb ρ hi hn hF hH) hQ

end
end Go.Ev

/- Rules over the abstract machine: runs by the kernel with all objects listed; plain values under other numbers. -/
namespace Go.Ev
open Go

/-- All objects, where all are shown. -/
noncomputable def objsAll (h : AHeap) : Nat → Nat → Option (List AObj)
  | 0, _ => some []
  | k + 1, i => match h.get i with
    | some o => match objsAll h k (i + 1) with | some l => some (o :: l) | none => none
    | none => none

noncomputable def pickA (n : Nat) (ts : List Nat) : Option (AExit × St) → Option (AExit × List AV × List AObj)
  | some (x, s) => match Nat.beq s.tmps.n n with
    | true => match getAll s.tmps ts, objsAll s.heap s.heap.n 0 with
      | some vs, some os => some (x, vs, os)
      | _, _ => none
    | false => none
  | none => none

section
variable {P : Program} {G : Env} {b : Bool} {ops : Array Oper} {l : List Oper} {o : Oper} {s s' : St} {h h' : AHeap} {v : AV} {A A' : Fr} {call : Caller} {f : FuncId} {args : List AV} {c d : Code}

theorem objsAll_some : ∀ (k i : Nat) (os : List AObj), objsAll h k i = some os → os.length = k ∧ ∀ (j : Nat) (o : AObj), os[j]? = some o → h.get (i + j) = some o
  | 0, i, os, e => by simp [objsAll] at e; subst e; exact ⟨rfl, fun j o h => by simp at h⟩
  | k + 1, i, os, e => by
    simp only [objsAll] at e
    cases hq : h.get i with
    | none => rw [hq] at e; simp at e
    | some o' =>
      cases hr : objsAll h k (i + 1) with
      | none => rw [hq, hr] at e; simp at e
      | some r =>
        rw [hq, hr] at e
        simp at e
        subst e
        obtain ⟨h1, h2⟩ := objsAll_some k (i + 1) r hr
        refine ⟨by simp [h1], fun j o hj => ?_⟩
        cases j with
        | zero => simp at hj; subst hj; simpa using hq
        | succ j => rw [show i + (j + 1) = i + 1 + j by omega]; exact h2 j o (by simpa using hj)

theorem pickA_sub {n : Nat} {ts : List Nat} {x y : AExit} {s1 : St} {vs : List AV} {os : List AObj} (e : pickA n ts (some (x, s1)) = some (y, vs, os)) : y = x ∧ SubSt ⟨mkFr n (ts.zip vs), mkH os⟩ s1 := by
  simp only [pickA] at e
  split at e
  · rename_i hn
    rw [beq_iff] at hn
    simp only [decide_eq_true_eq] at hn
    cases hg : getAll s1.tmps ts with
    | none => simp [hg] at e
    | some us =>
      cases ho : objsAll s1.heap s1.heap.n 0 with
      | none => simp [hg, ho] at e
      | some qs =>
        simp [hg, ho] at e
        obtain ⟨rfl, rfl, rfl⟩ := e
        obtain ⟨k1, k2⟩ := objsAll_some _ _ _ ho
        exact ⟨rfl, hn.symm, fun t v h => getAll_get hg t v (mkFr_get h), by simp [mkH, k1], fun id o hh => by simpa using k2 id o (mkH_get hh)⟩
  · simp at e

theorem HCode.pickA (hm : P.follows .mixedOrders = true) (hc : CallerOK P G call) (k n : Nat) (ts : List Nat) {x : AExit} {vs : List AV} {os : List AObj} {Φ : AExit → St → Prop}
    (e : pickA n ts ((evCode P G k c).run call s) = some (x, vs, os)) (h : Φ x ⟨mkFr n (ts.zip vs), mkH os⟩) : HCode P G b c s Φ := by
  cases hr : (evCode P G k c).run call s with
  | none => rw [hr] at e; simp [Ev.pickA] at e
  | some r =>
    obtain ⟨y, s1⟩ := r
    rw [hr] at e
    obtain ⟨rfl, hS⟩ := pickA_sub e
    intro N h0 pl0 M0 w0 a w Q hb hs hQ
    exact code_ok hc (draw_ok hm hc) k c s x s1 a w Q hr hs fun a1 w1 h1 => hQ x _ a1 w1 h (hS.now h1)

theorem zip_map_both : ∀ (L : List (Nat × AV)), (L.map (·.1)).zip (L.map (·.2)) = L
  | [] => rfl
  | x :: r => by simp [zip_map_both r]

/-- The same, the frame and the heap said at once. -/
theorem HCode.pickB (hm : P.follows .mixedOrders = true) (hc : CallerOK P G call) (k n : Nat) (L : List (Nat × AV)) {x : AExit} {os : List AObj} {Φ : AExit → St → Prop}
    (e : Ev.pickA n (L.map (·.1)) ((evCode P G k c).run call s) = some (x, L.map (·.2), os)) (h : Φ x ⟨mkFr n L, mkH os⟩) : HCode P G b c s Φ := by
  refine HCode.pickA hm hc k n _ e ?_
  rw [zip_map_both]; exact h

theorem HOps.pickB (hc : CallerOK P G call) {l1 : List Oper} (n : Nat) (L : List (Nat × AV)) {os : List AObj} {Φ : St → Prop}
    (e : Ev.pickA n (L.map (·.1)) (norm ((runOps P G ops l1).run call s)) = some (.normal, L.map (·.2), os)) (h : HOps P G b ops l ⟨mkFr n L, mkH os⟩ Φ) : HOps P G b ops (l1 ++ l) s Φ := by
  cases hr : (runOps P G ops l1).run call s with
  | none => rw [hr] at e; simp [norm, Ev.pickA] at e
  | some s1 =>
    rw [hr] at e
    obtain ⟨_, hS⟩ := pickA_sub e
    rw [zip_map_both] at hS
    exact HOps.run hc hr (HOps.sub hS h)

theorem mx_zero {a b : Nat} (h : Nat.mx a b = 0) : a = 0 ∧ b = 0 := by
  have := mx_le.1 (Nat.le_of_eq h)
  omega
theorem mx_eq {a b : Nat} (ha : a = 0) (hb : b = 0) : Nat.mx a b = 0 := by subst ha; subst hb; rfl

mutual
theorem ren_plain (ρ : Nat → Nat) : ∀ (v : AV), v.top = 0 → ren ρ v = v
  | .ptr .., h => by simp [AV.top] at h
  | .slice .., h => by simp [AV.top] at h
  | .map _, h => by simp [AV.top] at h
  | .func fn a b, h => by simp only [AV.top] at h; simp only [ren, rens_plain ρ a (mx_zero h).1, rens_plain ρ b (mx_zero h).2]
  | .iface t v, h => by simp only [AV.top] at h; simp only [ren, ren_plain ρ v h]
  | .agg cs, h => by simp only [AV.top] at h; simp only [ren, rens_plain ρ cs h]
  | .tuple cs, h => by simp only [AV.top] at h; simp only [ren, rens_plain ρ cs h]
  | .ps xs t, h => by simp only [AV.top] at h; simp only [ren, rens_plain ρ xs h]
  | .pptr xs i o, h => by simp only [AV.top] at h; simp only [ren, rens_plain ρ xs h]
  | .bool b, _ => rfl
  | .int k n, _ => rfl
  | .str s, _ => rfl
  | .nilp, _ => rfl
  | .nils, _ => rfl
  | .nilm, _ => rfl
  | .nilf, _ => rfl
  | .nili, _ => rfl
theorem rens_plain (ρ : Nat → Nat) : ∀ (vs : List AV), AV.tops vs = 0 → rens ρ vs = vs
  | [], _ => rfl
  | x :: r, h => by
    simp only [AV.tops] at h
    simp only [rens, ren_plain ρ x (mx_zero h).1, rens_plain ρ r (mx_zero h).2]
end

theorem tops_append {n : Nat} {xs ys : List AV} (hx : AV.tops xs ≤ n) (hy : AV.tops ys ≤ n) : AV.tops (xs ++ ys) ≤ n :=
  tops_le.2 fun x h => (List.mem_append.1 h).elim (tops_le.1 hx x) (tops_le.1 hy x)

/-- A result of one bool, however the callee leaves. -/
theorem leave_bool (pol n : Nat) (b : Bool) (h : AHeap) : (leave pol n (.bool b) h).1 = .bool b := by
  unfold leave
  split
  · rfl
  · split
    · split
      · simp [frz, keepLow, AV.top, freezeDepth, keepAs, Nat.ble]
      · rfl
    · split
      · simp [leaveOwn, frz, keepLow, AV.top, freezeDepth, keepAs, Nat.ble]
      · rfl
    · rfl

end
end Go.Ev

/- Rules over the abstract machine: a region that draws, step by step. -/
namespace Go.Ev
open Go

abbrev noIds : Ids := ⟨false, [], 0, 0⟩
/-- It reads the objects 'ids'. -/
abbrev rd (ids : List Nat) : Rec := ⟨⟨false, ids, 0, 0⟩, noIds⟩
/-- It writes the objects 'ids', and lays those from 'n' on. -/
abbrev wr (ids : List Nat) (n m : Nat) : Rec := ⟨⟨false, ids, 0, 0⟩, ⟨false, ids, n, m⟩⟩
/-- A call that sees the objects below 'n' and leaves them. -/
abbrev cl (n : Nat) : Rec := ⟨⟨true, [], n, n⟩, noIds⟩

noncomputable abbrev dop (P : Program) (G : Env) (ops : Array Oper) (o : Oper) : DOper := ⟨oneOper P G ops o, o.looksAt ops, footOf o.op, kindOf o.op, 0⟩

/-- Is there room for a temporary? -/
def room2 (t n : Nat) : Bool := Nat.blt t n && Nat.blt t 60000

section
variable {P : Program} {G : Env} {b : Bool} {ops : Array Oper} {l rest : List Oper} {o : Oper} {h h' h1 : AHeap} {v : AV} {call : Caller} {f : FuncId} {args : List AV} {k n t : Nat} {L : List (Nat × AV)} {rs : List Rec} {Φ : Fr → AHeap → Prop}

theorem DGo.step {F F' : Fr} {r : Rec} (hs : DSpec P G ops o (o.looksAt ops) F h v h1 r) (hcl : noClash (maskAt (masksGo ops.toList 0 []) k) r rs k = true) (hp : putA F o.dst v = some F') (next : DGo P G ops (k + 1) rest F' h1 (r :: rs) Φ) :
    DGo P G ops k (o :: rest) F h rs Φ := ⟨v, h1, r, F', hs, hcl, hp, next⟩

/-- By the kernel. -/
theorem DGo.ev (hc : CallerOK P G call) (v : AV) (h1 : AHeap) (r : Rec) (t : Nat) (hd : o.dst = some t) (ht : room2 t n = true) (e : dOne call (mkFr n L) h (dop P G ops o) = some (v, h1, r))
    (hcl : noClash (maskAt (masksGo ops.toList 0 []) k) r rs k = true) (next : DGo P G ops (k + 1) rest (mkFr n (L ++ [(t, v)])) h1 (r :: rs) Φ) : DGo P G ops k (o :: rest) (mkFr n L) h rs Φ := by
  simp only [room2, Bool.and_eq_true] at ht
  exact DGo.step (DSpec.of hc e) hcl (by rw [hd]; exact putA_mkFr ht.1 ht.2) next

/-- A reader, by the kernel. -/
theorem DGo.rd (hc : CallerOK P G call) (v : AV) (ids : List Nat) (t : Nat) (hd : o.dst = some t) (ht : room2 t n = true) (e : dOne call (mkFr n L) h (dop P G ops o) = some (v, h, rd ids))
    (hcl : noClash (maskAt (masksGo ops.toList 0 []) k) (Ev.rd ids) rs k = true) (next : DGo P G ops (k + 1) rest (mkFr n (L ++ [(t, v)])) h (Ev.rd ids :: rs) Φ) : DGo P G ops k (o :: rest) (mkFr n L) h rs Φ :=
  DGo.ev hc v h (Ev.rd ids) t hd ht e hcl next

/-- Without a result. -/
theorem DGo.ev0 (hc : CallerOK P G call) (v : AV) (h1 : AHeap) (r : Rec) (hd : o.dst = none) (e : dOne call (mkFr n L) h (dop P G ops o) = some (v, h1, r))
    (hcl : noClash (maskAt (masksGo ops.toList 0 []) k) r rs k = true) (next : DGo P G ops (k + 1) rest (mkFr n L) h1 (r :: rs) Φ) : DGo P G ops k (o :: rest) (mkFr n L) h rs Φ :=
  DGo.step (DSpec.of hc e) hcl (by rw [hd]; rfl) next

/-- A call that leaves the heap as it is. -/
theorem DGo.calls (t : Nat) (hd : o.dst = some t) (ht : room2 t n = true) (hg : guardR ⟨n, lookFr (mkFr n L) (o.looksAt ops) .nil⟩ (guardDst ops o) = some true) (e : (opR P G o.op).run ⟨n, lookFr (mkFr n L) (o.looksAt ops) .nil⟩ h = some (.call f args))
    (htop : topsAt (mkFr n L) h.n (o.looksAt ops) = true) (ho : ∀ id o', h.get id = some o' → o'.top ≤ h.n) (hf : HCall P G f args h (fun v1 h1 => v1 = v ∧ h1 = h))
    (hcl : noClash (maskAt (masksGo ops.toList 0 []) k) (cl h.n) rs k = true) (next : DGo P G ops (k + 1) rest (mkFr n (L ++ [(t, v)])) h (cl h.n :: rs) Φ) : DGo P G ops k (o :: rest) (mkFr n L) h rs Φ := by
  simp only [room2, Bool.and_eq_true] at ht
  exact DGo.step (DSpec.callSame hg e htop ho hf) hcl (by rw [hd]; exact putA_mkFr ht.1 ht.2) next

/-- A call of plain values. -/
theorem DGo.pure (hG : GTop G) (t : Nat) (hd : o.dst = some t) (ht : room2 t n = true) (hg : guardR ⟨n, lookFr (mkFr n L) (o.looksAt ops) .nil⟩ (guardDst ops o) = some true) (e : (opR P G o.op).run ⟨n, lookFr (mkFr n L) (o.looksAt ops) .nil⟩ h = some (.call f args))
    (hta : AV.tops args = 0) (hv : v.top = 0) (hf : HPure P G f args v)
    (hcl : noClash (maskAt (masksGo ops.toList 0 []) k) (Ev.rd []) rs k = true) (next : DGo P G ops (k + 1) rest (mkFr n (L ++ [(t, v)])) h (Ev.rd [] :: rs) Φ) : DGo P G ops k (o :: rest) (mkFr n L) h rs Φ := by
  simp only [room2, Bool.and_eq_true] at ht
  exact DGo.step (DSpec.pure hG hg e hta hv hf) hcl (by rw [hd]; exact putA_mkFr ht.1 ht.2) next

/-- A writer. -/
theorem DGo.wr (v : AV) (h1 : AHeap) (ids : List Nat) (m : Nat) (t : Nat) (hd : o.dst = some t) (ht : room2 t n = true) (hg : guardR ⟨n, lookFr (mkFr n L) (o.looksAt ops) .nil⟩ (guardDst ops o) = some true)
    (htop : topsAt (mkFr n L) h.n (o.looksAt ops) = true) (ho : objsAt h h.n ids = true)
    (e : dWriteEnd h ⟨h.n, onlyT h ids .nil⟩ ids ((opR P G o.op).run ⟨n, lookFr (mkFr n L) (o.looksAt ops) .nil⟩ ⟨h.n, onlyT h ids .nil⟩) = some (v, h1, Ev.wr ids h.n m))
    (hcl : noClash (maskAt (masksGo ops.toList 0 []) k) (Ev.wr ids h.n m) rs k = true) (next : DGo P G ops (k + 1) rest (mkFr n (L ++ [(t, v)])) h1 (Ev.wr ids h.n m :: rs) Φ) : DGo P G ops k (o :: rest) (mkFr n L) h rs Φ := by
  simp only [room2, Bool.and_eq_true] at ht
  exact DGo.step (DSpec.write hg htop ho e) hcl (by rw [hd]; exact putA_mkFr ht.1 ht.2) next

theorem DGo.done {F : Fr} (hn : Nat.ble h.n 1000000 = true) (h0 : Φ F h) : DGo P G ops k [] F h rs Φ := ⟨by rw [ble_iff] at hn; simpa using hn, h0⟩

/-- What a list of objects names. -/
theorem mkH_tops {L : List AObj} {m : Nat} (hL : ∀ o, o ∈ L → o.top ≤ m) : ∀ id o, (mkH L).get id = some o → o.top ≤ m :=
  fun _ o hg => hL o (List.mem_of_getElem? (mkH_get hg))

end
end Go.Ev

namespace Go.Ev
open Go
section
variable {P : Program} {G : Env} {b : Bool} {ops : Array Oper} {l : List Oper} {s : St} {call : Caller}

/-- The first 'k' operations, by the kernel. -/
theorem HOps.pickN (hc : CallerOK P G call) (k n : Nat) (L : List (Nat × AV)) {os : List AObj} {Φ : St → Prop}
    (e : Ev.pickA n (L.map (·.1)) (norm ((runOps P G ops (l.take k)).run call s)) = some (.normal, L.map (·.2), os)) (h : HOps P G b ops (l.drop k) ⟨mkFr n L, mkH os⟩ Φ) : HOps P G b ops l s Φ := by
  have := HOps.pickB hc n L e h
  rw [List.take_append_drop] at this
  exact this

/-- By the kernel, the heap as it stands. -/
theorem HCode.pickV {c : Code} {call : Caller} (hm : P.follows .mixedOrders = true) (hc : CallerOK P G call) (k n : Nat) (L : List (Nat × AV)) (h' : AHeap) {x : AExit} {Φ : AExit → St → Prop}
    (e : Ev.pickH n (L.map (·.1)) ((evCode P G k c).run call s) = some (x, L.map (·.2), h')) (h : Φ x ⟨mkFr n L, h'⟩) : HCode P G b c s Φ := by
  refine HCode.pickH hm hc k n _ e ?_
  rw [zip_map_both]; exact h

theorem HOps.pickV (hc : CallerOK P G call) (k n : Nat) (L : List (Nat × AV)) (h' : AHeap) {Φ : St → Prop}
    (e : pickOps n (L.map (·.1)) ((runOps P G ops (l.take k)).run call s) = some (L.map (·.2), h')) (h : HOps P G b ops (l.drop k) ⟨mkFr n L, h'⟩ Φ) : HOps P G b ops l s Φ := by
  have := HOps.pick (l := l.drop k) (Φ := Φ) (b := b) hc n (L.map (·.1)) e (by rw [zip_map_both]; exact h)
  rw [List.take_append_drop] at this
  exact this

/-- Ways that meet. -/
theorem HCode.mid {c : Code} (S : St) {Φ : AExit → St → Prop} (h1 : HCode P G b c s (fun e s' => e = .normal ∧ s' = S)) (h2 : Φ .normal S) : HCode P G b c s Φ :=
  h1.mono fun e s' ⟨h3, h4⟩ => by subst h3; subst h4; exact h2

end
end Go.Ev
