import Derived.Test.YtjnecjhkmhhnnaaGreatDoorEva
import Derived.Test.YtjnecjhkmhhnnaaGreatDoorMach8
namespace Go.Proofs.YtjnecjhkmhhnnaaGreatDoor
open Go Go.Ev

section
variable (m : List (PKey × Bool))
noncomputable abbrev mapK : AObj := .map (entsG encKey AV.bool m 0) m.length
noncomputable abbrev kboxK : AObj := .row 1 false 0 [.map 0]
noncomputable abbrev fnK : AV := .func (.func 170) [] [.ptr 1 0 0 0]
noncomputable abbrev keyAt (i : Nat) : AV := encKey (gD m i).1
noncomputable abbrev tailK (bx : AV) (seen : List Nat) (rows : List AObj) : List AObj := mapK m :: kboxK :: .row 1 false 0 [bx] :: .miter (.map 0) m.length seen :: rows
noncomputable abbrev rowK (e : Nat) (seen : List Nat) : AObj := .row 6 true e (seen.map (keyAt m))
noncomputable abbrev slK (e : Nat) (seen : List Nat) : AV := .slice 4 e 0 seen.length none
noncomputable abbrev frA : List (Nat × AV) := [(0, .nils), (1, fnK), (2, .ptr 2 0 0 0), (4, .nils), (6, fnK)]
noncomputable abbrev AR : Fr := mkFr 13 frA
/-- The iterator's state between two rounds. -/
noncomputable def stI (l : Nat) (bx : AV) (seen : List Nat) (rows : List AObj) : St := ⟨mkFr 14 [(0, .func (.yield l) [] []), (5, .ptr 3 0 0 0)], mkH (tailK m bx seen rows)⟩

noncomputable abbrev yv (l : Nat) : AV := .func (.yield l) [] []
noncomputable abbrev valAt (i : Nat) : AV := .bool (gD m i).2
noncomputable def stE (l : Nat) (bx : AV) (seen : List Nat) (rows : List AObj) : St := ⟨mkFr 14 [(0, yv l), (5, .ptr 3 0 0 0), (6, .tuple [.bool false]), (7, .bool false)], mkH (tailK m bx seen rows)⟩
noncomputable abbrev frY (l i : Nat) : List (Nat × AV) := [(0, yv l), (5, .ptr 3 0 0 0), (6, .tuple [.bool true, keyAt m i, valAt m i]), (7, .bool true)]
noncomputable def stY (l : Nat) (bx : AV) (seen : List Nat) (rows : List AObj) (i : Nat) : St := ⟨mkFr 14 (frY m l i), mkH (tailK m bx (seen ++ [i]) rows)⟩
noncomputable abbrev frR (l i n : Nat) : List (Nat × AV) := frY m l i ++ [(8, .tuple [keyAt m i, valAt m i]), (9, keyAt m i), (3, .ptr n 0 0 0)]
noncomputable def stR (l : Nat) (bx : AV) (seen : List Nat) (rows : List AObj) (i n : Nat) : St := ⟨mkFr 14 (frR m l i n), mkH (tailK m bx (seen ++ [i]) (rows ++ [.row 6 false 0 [keyAt m i]]))⟩
noncomputable abbrev frB (i n : Nat) : List (Nat × AV) := frA ++ [(7, keyAt m i), (5, .ptr n 0 0 0)]
noncomputable def stB (bx : AV) (seen : List Nat) (rows : List AObj) (i n : Nat) : St := ⟨mkFr 13 (frB m i n), mkH (tailK m bx (seen ++ [i]) (rows ++ [.row 6 false 0 [keyAt m i], .row 6 false 0 [keyAt m i]]))⟩
noncomputable def stC (bx bx' : AV) (seen : List Nat) (rows : List AObj) (i n : Nat) : St := ⟨mkFr 13 (frB m i n ++ [(8, bx), (9, keyAt m i), (10, .ps [keyAt m i] true), (11, bx')]), mkH (tailK m bx' (seen ++ [i]) rows)⟩
/-- The range goes on. -/
def GoK (l : Nat) (bx : AV) (seen : List Nat) (rows : List AObj) (s : St) : Prop := (s = stE m l bx seen rows ∧ ∀ i, i < m.length → i ∈ seen) ∨ ∃ i, (i < m.length ∧ ¬ i ∈ seen) ∧ s = stY m l bx seen rows i
def NextK (l : Nat) (bx : AV) (seen : List Nat) (rows : List AObj) : Prop := (m.length = m.length ∧ ∀ e, e ∈ entsG encKey AV.bool m 0 → e.born < m.length ∧ (e.born ∈ seen ∨ ∃ y, (y < m.length ∧ ¬ y ∈ seen) ∧ e.key = keyAt m y ∧ e.val = valAt m y ∧ e.born = y)) ∧
  ((∀ e, e ∈ entsG encKey AV.bool m 0 → e.born ∈ seen) → GoK m l bx seen rows (stE m l bx seen rows)) ∧ ∀ y, (y < m.length ∧ ¬ y ∈ seen) → GoK m l bx seen rows (stY m l bx seen rows y)
def InvK (l : Nat) (n : Nat) (s : St) : Prop := ∃ seen : List Nat, (seen.Nodup ∧ (∀ i, i ∈ seen → i < m.length) ∧ n = m.length - seen.length) ∧
  ((seen = [] ∧ s = stI m l .nils [] []) ∨ ∃ e, seen ≠ [] ∧ s = stI m l (slK e seen) seen [rowK m e seen])

/-- What the iterator leaves. -/
def EndK (h : AHeap) : Prop := ∃ seen : List Nat, (seen.Nodup ∧ (∀ i, i ∈ seen → i < m.length) ∧ ∀ i, i < m.length → i ∈ seen) ∧
  ((seen = [] ∧ h = mkH (tailK m .nils [] [])) ∨ ∃ e, seen ≠ [] ∧ h = mkH (tailK m (slK e seen) seen [rowK m e seen]))
end

theorem mapK_top (m : List (PKey × Bool)) : (mapK m).top = 0 := entTops_key m 0
theorem rowK_top (m : List (PKey × Bool)) (e : Nat) (s : List Nat) : (rowK m e s).top = 0 := tops_map (fun i => encKey_top _) s
theorem nextK (m : List (PKey × Bool)) (l : Nat) (bx : AV) (seen : List Nat) (rows : List AObj) : NextK m l bx seen rows := ⟨entsG_next, fun h => .inl ⟨rfl, entsG_done h⟩, fun y hy => .inr ⟨y, hy, rfl⟩⟩
theorem appendSeqK (m : List (PKey × Bool)) (hm : m.length ≤ 2 ^ 30) : HCall Tryz.prog G 245 [.nils, fnK] (mkH [mapK m, kboxK])
    (fun v h => ∃ seen : List Nat, (seen.Nodup ∧ (∀ i, i ∈ seen → i < m.length) ∧ ∀ i, i < m.length → i ∈ seen) ∧
      ((seen = [] ∧ v = .nils ∧ h = mkH [mapK m, kboxK]) ∨ ∃ e, seen ≠ [] ∧ v = .slice 2 e 0 seen.length none ∧ h = mkH [mapK m, kboxK, rowK m e seen])) := by
  refine HCall.ranger (fn := Tryz.f245) (fk := Tryz.f170) (caps := [.ptr 1 0 0 0]) (AR := AR) (sA := ⟨mkFr 13 [(0, .nils), (1, fnK), (2, .ptr 2 0 0 0), (4, .nils)], mkH [mapK m, kboxK, .row 1 false 0 [.nils]]⟩) (hB := mkH [mapK m, kboxK, .row 1 false 0 [.nils]]) (ΨK := EndK m) 2
    Tryz.func245 (by kernel_rfl) rfl ⟨by kernel_rfl, by kernel_rfl⟩ Tryz.func170 (by kernel_rfl) rfl ⟨by kernel_rfl, by kernel_rfl⟩ rfl
    (hcodeD mixed gtop (ev 40) (.go 1 .fin) (by kernel_rfl)) (hcodeD mixed gtop (ev 40) (.go 0 .fin) (by kernel_rfl)) (by kernel_rfl) ?_ ?_ ?_
  · intro l r hrd hpe hpar ha hbo
    have hB3 : ∀ h0 pl0 M0 w0, YB 3 l r AR h0 pl0 M0 w0 → Base (some 3) h0 pl0 := fun _ _ _ _ h => h.1
    refine HCodeB.seq (HCodeB.of hB3 (HCode.mono (hcodeD mixed gtop (ev 40) (s' := ⟨mkFr 14 [(0, yv l), (1, .ptr 1 0 0 0), (4, .map 0), (5, .ptr 3 0 0 0)], mkH (tailK m .nils [] [])⟩) (.go 1 .fin) (by kernel_rfl)) ?_))
    rintro _ _ ⟨rfl, rfl⟩
    refine HCodeB.weak (s' := stI m l .nils [] []) hB3 (weakD gtop (by kernel_rfl) (.ren [0, 1, 2, 3] [0] [0, 5] .fin) (W := (mapK m).top = 0 ∧ stI m l .nils [] [] = stI m l .nils [] []) ⟨mapK_top m, rfl⟩ (by kernel_rfl)) ?_
    refine HCodeB.block (HCodeB.loop (InvK m l) m.length ⟨[], ⟨List.nodup_nil, by simp, by simp⟩, .inl ⟨rfl, rfl⟩⟩ ?_)
    rintro n s ⟨seen, ⟨hnd, hlt, hn⟩, ⟨rfl, rfl⟩ | ⟨e, hne, rfl⟩⟩
    · refine HCodeB.seq (HCodeB.of hB3 (HCode.mono (regionD gtop (ev 40) (Ψ := GoK m l .nils [] []) (.nxt Nat (keyAt m) (valAt m) (fun i => i) (fun i => i < m.length ∧ ¬ i ∈ ([] : List Nat)) (.go 0 .fin) (fun i => .go 0 .fin)) (W := NextK m l .nils [] []) (nextK m l .nils [] []) (by kernel_rfl)) ?_))
      rintro _ s ⟨rfl, ⟨rfl, hd⟩ | ⟨i, hi, rfl⟩⟩
      · refine HCodeB.seq (HCodeB.cond (t := false) (by kernel_rfl) (fun h => by cases h) fun _ => HCodeB.exit ?_)
        refine ⟨fun id h => (by cases h), _, fun _ _ _ _ _ _ _ _ h => h, [], ⟨hnd, hlt, hd⟩, .inl ⟨rfl, rfl⟩⟩
      · 
        refine HCodeB.seq (HCodeB.cond (t := true) (by kernel_rfl) (fun _ => HCodeB.skip ?_) fun h => by cases h)
        refine HCodeB.block (HCodeB.seq (HCodeB.of hB3 (HCode.mono (regionD gtop (ev 40) (Ψ := fun s => s = stR m l .nils [] [] i 4) (.ent (.tuple [keyAt m i, valAt m i]) (.go 2 .fin)) (W := (m.length = m.length ∧ entV (bornO (entsG encKey AV.bool m 0) (lastN ([] ++ [i]))) = some (.tuple [keyAt m i, valAt m i])) ∧ stR m l .nils [] [] i 4 = stR m l .nils [] [] i 4) ⟨entsG_entry hi.1, rfl⟩ (by kernel_rfl)) ?_)))
        rintro _ _ ⟨rfl, rfl⟩
        refine HCodeB.seq (yield_region (AR1 := mkFr 13 (frA ++ [(7, keyAt m i)])) (A0 := mkFr 14 (frR m l i 4 ++ [(10, yv l)])) (A1 := mkFr 14 (frR m l i 4 ++ [(10, yv l), (11, keyAt m i)])) (A2 := mkFr 14 (frR m l i 4 ++ [(10, yv l), (11, keyAt m i), (12, .bool true)])) (A3 := mkFr 14 (frR m l i 4 ++ [(10, yv l), (11, keyAt m i), (12, .bool true), (13, .bool false)]))
          (kv := keyAt m i) (v0 := yv l) (v1 := keyAt m i) (v3 := .bool false) (s1 := stB m .nils [] [] i (4 + 1)) (s2 := stC m .nils (.slice 6 0 0 1 none) [] [.row 6 false 0 [keyAt m i], .row 6 false 0 [keyAt m i], .row 6 true 0 [keyAt m i]] i 5)
          hrd hpe (by decide) rfl rfl rfl rfl (fun _ h => by cases h) (fun _ h => by cases h) (fun _ h => by cases h) (by kernel_rfl) (by kernel_rfl) (by kernel_rfl) (by kernel_rfl) rfl (by kernel_rfl) (by kernel_rfl) hpar (by kernel_rfl) ha hbo (by simp) (by simp)
          (hops1 gtop (ev 40) (.go 1 .fin) (by kernel_rfl)) (hopsD gtop (ev 40) (.go 2 (.apl (.go 0 .fin))) (W := (([keyAt m i] : List AV) ≠ [] ∧ fits 6 [keyAt m i] = true) ∧ (small 1 56 = true ∧ stC m .nils (.slice 6 0 0 1 none) [] [.row 6 false 0 [keyAt m i], .row 6 false 0 [keyAt m i], .row 6 true 0 [keyAt m i]] i 5 = stC m .nils (.slice 6 0 0 1 none) [] [.row 6 false 0 [keyAt m i], .row 6 false 0 [keyAt m i], .row 6 true 0 [keyAt m i]] i 5)) ⟨⟨List.cons_ne_nil _ _, by kernel_rfl⟩, by kernel_rfl, rfl⟩ (by kernel_rfl)) (by kernel_rfl) (by kernel_rfl) (by kernel_rfl) ?_)
        refine HCodeB.cond (t := false) (by kernel_rfl) (fun h => by cases h) fun _ => HCodeB.weak (s' := stI m l (slK 0 [i]) [i] [rowK m 0 [i]]) hB3 (weakD gtop (by kernel_rfl) (.ren [0, 1, 2, 3, 6] [0, 6] [0, 5] .fin) (W := (mapK m).top = 0 ∧ (AObj.row 6 true 0 [keyAt m i]).top = 0 ∧ stI m l (slK 0 [i]) [i] [rowK m 0 [i]] = stI m l (slK 0 [i]) [i] [rowK m 0 [i]]) ⟨mapK_top m, rowK_top m 0 [i], rfl⟩ (by kernel_rfl)) (HCodeB.skip ?_)
        exact ⟨m.length - [i].length, by have := hi.1; simp only [List.length_cons, List.length_nil] at hn ⊢; omega, [i], ⟨by simp, by simpa using hi.1, rfl⟩, .inr ⟨0, by simp, rfl⟩⟩
    · refine HCodeB.seq (HCodeB.of hB3 (HCode.mono (regionD gtop (ev 40) (Ψ := GoK m l (slK e seen) seen [rowK m e seen]) (.nxt Nat (keyAt m) (valAt m) (fun i => i) (fun i => i < m.length ∧ ¬ i ∈ (seen : List Nat)) (.go 0 .fin) (fun i => .go 0 .fin)) (W := NextK m l (slK e seen) seen [rowK m e seen]) (nextK m l (slK e seen) seen [rowK m e seen]) (by kernel_rfl)) ?_))
      rintro _ s ⟨rfl, ⟨rfl, hd⟩ | ⟨i, hi, rfl⟩⟩
      · refine HCodeB.seq (HCodeB.cond (t := false) (by kernel_rfl) (fun h => by cases h) fun _ => HCodeB.exit ?_)
        refine ⟨fun id h => (by cases h), _, fun _ _ _ _ _ _ _ _ h => h, seen, ⟨hnd, hlt, hd⟩, .inr ⟨e, hne, rfl⟩⟩
      · have hln := seen_len hnd hlt hi.1 hi.2; have he : seen.map (keyAt m) ++ [keyAt m i] = (seen ++ [i]).map (keyAt m) := by rw [List.map_append]; rfl
        refine HCodeB.seq (HCodeB.cond (t := true) (by kernel_rfl) (fun _ => HCodeB.skip ?_) fun h => by cases h)
        refine HCodeB.block (HCodeB.seq (HCodeB.of hB3 (HCode.mono (regionD gtop (ev 40) (Ψ := fun s => s = stR m l (slK e seen) seen [rowK m e seen] i 5) (.ent (.tuple [keyAt m i, valAt m i]) (.go 2 .fin)) (W := (m.length = m.length ∧ entV (bornO (entsG encKey AV.bool m 0) (lastN (seen ++ [i]))) = some (.tuple [keyAt m i, valAt m i])) ∧ stR m l (slK e seen) seen [rowK m e seen] i 5 = stR m l (slK e seen) seen [rowK m e seen] i 5) ⟨entsG_entry hi.1, rfl⟩ (by kernel_rfl)) ?_)))
        rintro _ _ ⟨rfl, rfl⟩
        refine HCodeB.seq (yield_region (AR1 := mkFr 13 (frA ++ [(7, keyAt m i)])) (A0 := mkFr 14 (frR m l i 5 ++ [(10, yv l)])) (A1 := mkFr 14 (frR m l i 5 ++ [(10, yv l), (11, keyAt m i)])) (A2 := mkFr 14 (frR m l i 5 ++ [(10, yv l), (11, keyAt m i), (12, .bool true)])) (A3 := mkFr 14 (frR m l i 5 ++ [(10, yv l), (11, keyAt m i), (12, .bool true), (13, .bool false)]))
          (kv := keyAt m i) (v0 := yv l) (v1 := keyAt m i) (v3 := .bool false) (s1 := stB m (slK e seen) seen [rowK m e seen] i (5 + 1)) (s2 := stC m (slK e seen) (.slice 4 (e + 1) 0 (seen.length + 1) none) seen [.row 6 true (e + 1) (seen.map (keyAt m) ++ [keyAt m i]), .row 6 false 0 [keyAt m i], .row 6 false 0 [keyAt m i]] i 6)
          hrd hpe (by decide) rfl rfl rfl rfl (fun _ h => by cases h) (fun _ h => by cases h) (fun _ h => by cases h) (by kernel_rfl) (by kernel_rfl) (by kernel_rfl) (by kernel_rfl) rfl (by kernel_rfl) (by kernel_rfl) hpar (by kernel_rfl) ha hbo (by simp) (by simp)
          (hops1 gtop (ev 40) (.go 1 .fin) (by kernel_rfl)) (hopsD gtop (ev 40) (.go 2 (.apl (.go 0 .fin))) (W := (([keyAt m i] : List AV) ≠ [] ∧ fits 6 [keyAt m i] = true) ∧ ((e = e ∧ seen.length = (seen.map (keyAt m)).length ∧ small (seen.length + 1) 56 = true) ∧ stC m (slK e seen) (.slice 4 (e + 1) 0 (seen.length + 1) none) seen [.row 6 true (e + 1) (seen.map (keyAt m) ++ [keyAt m i]), .row 6 false 0 [keyAt m i], .row 6 false 0 [keyAt m i]] i 6 = stC m (slK e seen) (.slice 4 (e + 1) 0 (seen.length + 1) none) seen [.row 6 true (e + 1) (seen.map (keyAt m) ++ [keyAt m i]), .row 6 false 0 [keyAt m i], .row 6 false 0 [keyAt m i]] i 6)) ⟨⟨List.cons_ne_nil _ _, by kernel_rfl⟩, ⟨rfl, (List.length_map ..).symm, small_le (m := 2 ^ 31) (by omega) (by omega) (by omega)⟩, rfl⟩ (by kernel_rfl)) (by kernel_rfl) (by kernel_rfl) (by kernel_rfl) ?_)
        refine HCodeB.cond (t := false) (by kernel_rfl) (fun h => by cases h) fun _ => HCodeB.weak (s' := stI m l (.slice 4 (e + 1) 0 (seen.length + 1) none) (seen ++ [i]) [.row 6 true (e + 1) (seen.map (keyAt m) ++ [keyAt m i])]) hB3 (weakD gtop (by kernel_rfl) (.ren [0, 1, 2, 3, 4] [0, 4] [0, 5] .fin) (W := (mapK m).top = 0 ∧ (AObj.row 6 true (e + 1) (seen.map (keyAt m) ++ [keyAt m i])).top = 0 ∧ stI m l (.slice 4 (e + 1) 0 (seen.length + 1) none) (seen ++ [i]) [.row 6 true (e + 1) (seen.map (keyAt m) ++ [keyAt m i])] = stI m l (.slice 4 (e + 1) 0 (seen.length + 1) none) (seen ++ [i]) [.row 6 true (e + 1) (seen.map (keyAt m) ++ [keyAt m i])]) ⟨mapK_top m, (by rw [he]; exact rowK_top m (e + 1) (seen ++ [i])), rfl⟩ (by kernel_rfl)) (HCodeB.skip ?_)
        exact ⟨m.length - (seen ++ [i]).length, by simp only [List.length_append, List.length_cons, List.length_nil]; omega, seen ++ [i], ⟨nodup_snoc hnd hi.2, fun j hj => (List.mem_append.1 hj).elim (hlt j) fun h => (List.mem_singleton.1 h) ▸ hi.1, rfl⟩, .inr ⟨e + 1, by simp, by rw [he]; simp only [slK, List.length_append, List.length_cons, List.length_nil, Nat.zero_add]⟩⟩
  · simp
  · rintro hK ⟨seen, h1, ⟨rfl, rfl⟩ | ⟨e, h2, rfl⟩⟩
    · refine ⟨⟨mkFr 13 [(0, .nils), (1, fnK), (2, .ptr 2 0 0 0), (4, .nils), (6, fnK), (12, .nils)], mkH (tailK m .nils [] [])⟩, hops1 gtop (ev 40) (.go 1 .fin) (by kernel_rfl),
        ⟨mkFr 13 [(4, .nils)], mkH [mapK m, kboxK]⟩, weakD gtop (by kernel_rfl) (.ren [0, 1] [0] [4] .fin) (W := (mapK m).top = 0 ∧ (⟨mkFr 13 [(4, .nils)], mkH [mapK m, kboxK]⟩ : St) = ⟨mkFr 13 [(4, .nils)], mkH [mapK m, kboxK]⟩) ⟨mapK_top m, rfl⟩ (by kernel_rfl), .nils, by kernel_rfl, [], h1, .inl ⟨rfl, rfl, rfl⟩⟩
    · refine ⟨⟨mkFr 13 [(0, .nils), (1, fnK), (2, .ptr 2 0 0 0), (4, slK e seen), (6, fnK), (12, slK e seen)], mkH (tailK m (slK e seen) seen [rowK m e seen])⟩, hops1 gtop (ev 40) (.go 1 .fin) (by kernel_rfl),
        ⟨mkFr 13 [(4, .slice 2 e 0 seen.length none)], mkH [mapK m, kboxK, rowK m e seen]⟩, weakD gtop (by kernel_rfl) (.ren [0, 1, 4] [0, 4] [4] .fin) (W := (mapK m).top = 0 ∧ (rowK m e seen).top = 0 ∧ (⟨mkFr 13 [(4, .slice 2 e 0 seen.length none)], mkH [mapK m, kboxK, rowK m e seen]⟩ : St) = ⟨mkFr 13 [(4, .slice 2 e 0 seen.length none)], mkH [mapK m, kboxK, rowK m e seen]⟩) ⟨mapK_top m, rowK_top m e seen, rfl⟩ (by kernel_rfl), .slice 2 e 0 seen.length none, by kernel_rfl, seen, h1, .inr ⟨e, h2, rfl, rfl⟩⟩

end Go.Proofs.YtjnecjhkmhhnnaaGreatDoor
