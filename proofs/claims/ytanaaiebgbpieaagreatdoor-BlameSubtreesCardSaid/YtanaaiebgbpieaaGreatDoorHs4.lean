/- The law of the parts of a count, walked: it answers true for every unit within bounds. Conditions: as sub_law names them. -/
import Derived.Test.YtanaaiebgbpieaaGreatDoorHs3
import Derived.Test.YtanaaiebgbpieaaGreatDoorMach7
namespace Go.Proofs.YtanaaiebgbpieaaGreatDoor
open Go Go.Ev
def pairs_e1I (l : List PPair) (x0 : Nat) : Prop := x0 ≤ l.length
noncomputable def pairs_e1S (l : List PPair) (x0 : Nat) : List AV × List AObj := ([AV.ls (List.map encPair l), AV.ls (List.map encPair l), AV.int IntKind.i64 (Int.ofNat x0)], [])
theorem pairs_ok (l m : List PPair) (hl : l.length < 2 ^ 31) (hm : m.length < 2 ^ 31) (he : l = m) : HPure Tryz.prog G 7 [.ls (l.map encPair), .ls (m.map encPair)] (.bool true) := by
  subst he
  exact HPure.walk mixed gtop (ev 40) (by kernel_rfl) (by kernel_rfl) (fn := Tryz.f7) Tryz.func7 (by kernel_rfl) rfl ⟨by kernel_rfl, by kernel_rfl⟩ (.go 2 (.le 7 (AV.int IntKind.i64 (Int.ofNat l.length)) (.go 1 (.le 9 (AV.int IntKind.i64 (Int.ofNat l.length)) (.go 0 (.br (.go 0 .fin) (.go 0 (.loop (Nat) [0, 1, 5] (pairs_e1S l) (pairs_e1I l) (fun x => l.length - x) (0) (fun x0 => (.go 2 (.le 13 (AV.int IntKind.i64 (Int.ofNat l.length)) (.go 0 (.br (.go 1 (.elem (encPair (gD l x0)) (.go 2 (.elem (encPair (gD l x0)) (.go 0 (.val (AV.bool false) (.go 2 (.le 16 (AV.int IntKind.i64 (Int.ofNat (x0 + 1))) (.go 0 .fin))))))))) (.go 0 .fin)))))))))))))) (et (Le.len (f := encPair) (l := l)) (et (Le.len (f := encPair) (l := l)) (et (fun (z : (bnot (eqI (Int.ofNat l.length) (Int.ofNat l.length))) = true) => have h0 : (eqI (Int.ofNat l.length) (Int.ofNat l.length)) = false := (of_bnotT z); (have gh0 := eqI_f h0; ((Le.bool (by first | rfl | omega : (true) = (false))) : Le _ (AV.bool false)))) (fun (z : (bnot (eqI (Int.ofNat l.length) (Int.ofNat l.length))) = false) => have h0 : (eqI (Int.ofNat l.length) (Int.ofNat l.length)) = true := (of_bnotF z); (have gh0 := eqI_t h0; (et (Eq.refl ((pairs_e1S l) (0))) (et (by first | omega | (simp only [Int.ofNat_eq_natCast] at *; omega) : (0 : Nat) ≤ l.length) (fun (x0 : Nat) (hx0 : (pairs_e1I l) x0) => have hx0 : x0 ≤ l.length := hx0; (et (Le.len (f := encPair) (l := l)) (et (fun (h2 : (ltI (Int.ofNat x0) (Int.ofNat l.length)) = true) => (have gh2 := ltI_true h2; (et (nth_at encPair (by first | omega | (simp only [Int.ofNat_eq_natCast, List.length_map, List.length_set] at *; omega) | (simp only [Int.ofNat_eq_natCast, List.length_map, List.length_set, List.length_append, List.length_replicate, List.length_cons, List.length_nil] at * <;> omega) : x0 < (l).length)) (et (nth_at encPair (by first | omega | (simp only [Int.ofNat_eq_natCast, List.length_map, List.length_set] at *; omega) | (simp only [Int.ofNat_eq_natCast, List.length_map, List.length_set, List.length_append, List.length_replicate, List.length_cons, List.length_nil] at * <;> omega) : x0 < (l).length)) (et (agg_neq (d := (Tryz.prog).underlying 43) (n := 2) (l := (0, 1) :: (1, 1) :: []) (xs := [AV.int IntKind.i64 (gD l x0).a, AV.int IntKind.i64 (gD l x0).b]) (ys := [AV.int IntKind.i64 (gD l x0).a, AV.int IntKind.i64 (gD l x0).b]) (H := AHeap.mk 1000000 Tr.nil) rfl (eqL_t rfl rfl (eqS_i ((gD l x0).a)) (eqL_t rfl rfl (eqS_i ((gD l x0).b)) rfl))) (et (Le.wn (x := Int.ofNat x0 + (1 : Int)) (n := x0 + (1 : Nat)) (by first | omega | (simp only [Int.ofNat_eq_natCast, List.length_map, List.length_set] at *; omega) | (simp only [Int.ofNat_eq_natCast, List.length_map, List.length_set, List.length_append, List.length_replicate, List.length_cons, List.length_nil] at * <;> omega))) (Nx.mk (I := (pairs_e1I l)) (m := (fun x => l.length - x)) (S := (pairs_e1S l)) (x := x0) (x0 + 1) (by first | omega | (simp only [Int.ofNat_eq_natCast] at *; omega) : x0 + (1 : Nat) ≤ l.length) (by first | omega | (simp only [Int.ofNat_eq_natCast] at *; omega) : l.length - (x0 + (1 : Nat)) < l.length - x0)))))))) (fun (h2 : (ltI (Int.ofNat x0) (Int.ofNat l.length)) = false) => (have gh2 := ltI_false h2; ((Le.refl _) : Le _ (AV.bool true)))))))))))))) (by kernel_rfl)
mutual
theorem sizeU_n : ∀ (u : TUnit) (deep most : Int), sizeU u deep most ≤ most → Int.ofNat (nU u) ≤ sizeU u deep most
  | ⟨_, _, _, _, _, _, _, kids⟩, deep, most, h => by
    rw [sizeU] at h ⊢
    cases hd : ltI 20 deep with
    | true => rw [hd] at h; simp only at h; omega
    | false =>
      rw [hd] at h
      have := sizeK_n kids deep most 1 h
      rw [nU]
      simp only [Int.ofNat_eq_natCast] at *
      omega
theorem sizeK_n : ∀ (l : List TUnit) (deep most n : Int), sizeK l deep most n ≤ most → n + Int.ofNat (nUs l) ≤ sizeK l deep most n
  | [], _, _, n, _ => by rw [sizeK, nUs]; exact Int.le_of_eq (Int.add_zero n)
  | k :: r, deep, most, n, h => by
    rw [sizeK] at h ⊢
    cases hd : ltI most n with
    | true => rw [hd] at h; have := ltI_true hd; simp only at h; omega
    | false =>
      rw [hd] at h
      have h2 := sizeK_n r deep most _ h
      have h1 := sizeU_n k (deep + 1) (most - n) (by simp only [Int.ofNat_eq_natCast] at *; omega)
      rw [nUs]
      simp only [Int.ofNat_eq_natCast] at *
      omega
end
theorem nUs_len : ∀ (l : List TUnit), l.length ≤ nUs l
  | [] => Nat.zero_le _
  | k :: r => by have := nUs_len r; have := nU_eq k; rw [nUs, List.length_cons]; omega
theorem shortB_len {ws : List PWord} (h : shortB ws = true) : ws.length ≤ 300 := by
  unfold shortB at h
  have h := (Bool.and_eq_true_iff.1 h).2
  cases hd : ltI 300 (.ofNat ws.length) with
  | true => rw [hd] at h; cases h
  | false => have := ltI_false hd; simp only [Int.ofNat_eq_natCast] at this; omega
theorem okU_of : ∀ (u : TUnit), nU u ≤ 60 → wordsB u = true → okU u := by
  refine TUnit.ind fun u ih hn hw => ?_
  rw [wordsB_eq] at hw
  simp only [Bool.and_eq_true] at hw
  obtain ⟨⟨⟨_, h1⟩, h2⟩, h3⟩ := hw
  have h4 := nUs_len u.kids
  have h5 := nU_eq u
  exact okU_iff.2 ⟨shortB_len h1, shortB_len h2, by omega, fun k hk => ih k hk (by have := nU_kid hk; omega) (List.all_eq_true.1 h3 k hk)⟩
theorem few_ok {u : TUnit} (h : fewU u 60 = true) : okU u ∧ nU u ≤ 60 := by
  unfold fewU at h
  obtain ⟨h1, h2⟩ := Bool.and_eq_true_iff.1 h
  have hn : nU u ≤ 60 := by
    cases hd : ltI 60 (sizeU u 0 60) with
    | true => rw [hd] at h1; cases h1
    | false =>
      have h3 := ltI_false hd
      have := sizeU_n u 0 60 h3
      simp only [Int.ofNat_eq_natCast] at this
      omega
  exact ⟨okU_of u hn h2, hn⟩
noncomputable def cntN (k : Int) (ws : List PWord) : Nat := (cnt k ws).toNat
theorem cntN_eq (k : Int) (ws : List PWord) : cnt k ws = Int.ofNat (cntN k ws) := (Int.toNat_of_nonneg (cnt_le k ws).1).symm
theorem cntN_append (k : Int) (a b : List PWord) : cntN k (a ++ b) = cntN k a + cntN k b := by
  have h := cnt_append k a b
  rw [cntN_eq, cntN_eq k a, cntN_eq k b] at h
  exact Int.ofNat.inj h
theorem cntN_le (k : Int) (a : List PWord) : cntN k a ≤ a.length := by
  have h := (cnt_le k a).2
  rw [cntN_eq] at h
  exact Int.ofNat_le.1 h
noncomputable def cntL (k : Int) (l : List TUnit) : Nat := cntN k (allWs l)
theorem cntL_nil (k : Int) : cntL k [] = 0 := by unfold cntL; rw [allWs_nil]; rfl
theorem cntL_cons (k : Int) (w : TUnit) (r : List TUnit) : cntL k (w :: r) = cntN k (allW w) + cntL k r := by unfold cntL; rw [allWs_cons, cntN_append]
theorem cba_n (u : TUnit) (k : Int) (hf : okU u) (hl : (allW u).length ≤ 2 ^ 30) : HPure Tryz.prog G 6 [eU u, .int .i64 k] (.int .i64 (.ofNat (cntN k (allW u)))) := by
  have h := cba_ok u k hf (by simp only [Int.ofNat_eq_natCast]; omega)
  rwa [cntN_eq] at h
noncomputable abbrev boxO (u : TUnit) : AObj := .row 8 false 0 [eU u]
noncomputable abbrev ownV (u : TUnit) : AV := .agg [.int .i64 0, .int .i64 0, .int .i64 0, .int .i64 0, .str [], .ls (u.head.map encWord), .ls (u.words.map encWord), .nils]
noncomputable abbrev ownO (u : TUnit) : AObj := .row 8 false 0 [ownV u]
noncomputable abbrev upV (u : TUnit) : AV := .agg [.int .i64 0, .int .i64 0, .int .i64 0, .int .i64 0, .str [], .nils, .nils, .ls [eU u]]
theorem eqI_no {a b : Nat} (h : eqI (.ofNat a) (.ofNat b) = false) (e : a = b) : False := eqI_f h (congrArg Int.ofNat e)
theorem sub_f (u : TUnit) (act : Int) (hf : fitU u) (aw : HPure Tryz.prog G 4 [] (.bool true)) (hfew : HPure Tryz.prog G 5 [eU u, .int .i64 60] (.bool false)) : HPure Tryz.prog G 3 [eU u, .int .i64 act] (.bool true) := by
  exact HPure.walk mixed gtop (ev 40) (by kernel_rfl) (by kernel_rfl) (fn := Tryz.f3) Tryz.func3 (by kernel_rfl) rfl ⟨by kernel_rfl, by kernel_rfl⟩ (.go 1 (.pure (AV.bool true) (.go 2 (.pure (AV.bool false) (.go 2 .fin))))) (et (aw) (et (hfew) ((Le.refl _) : Le _ (AV.bool true)))) (by kernel_rfl)
def subT_e0_0I (u : TUnit) (act : Int) (x0 : Nat × List TUnit × Nat) : Prop := (u.kids).drop x0.1 = x0.2.1 ∧ cntL act u.kids = x0.snd.snd + cntL act x0.snd.fst
noncomputable def subT_e0_0S (u : TUnit) (act : Int) (x0 : Nat × List TUnit × Nat) : List AV × List AObj := ([AV.int IntKind.i64 act, AV.ptr 0 0 0 0, AV.int IntKind.i64 (Int.ofNat x0.snd.snd), AV.ptr 1 0 0 0, AV.int IntKind.i64 (Int.ofNat x0.fst)], [AObj.row 8 false 0 [AV.agg [AV.int IntKind.i64 u.act, AV.int IntKind.i64 u.item, AV.int IntKind.i64 u.n, AV.int IntKind.i64 u.kind, AV.str u.label, AV.ls (List.map encWord u.head), AV.ls (List.map encWord u.words), AV.ls (List.map encU u.kids)]], AObj.row 8 false 0 [AV.agg [AV.int IntKind.i64 0, AV.int IntKind.i64 0, AV.int IntKind.i64 0, AV.int IntKind.i64 0, AV.str [], AV.ls (List.map encWord u.head), AV.ls (List.map encWord u.words), AV.nils]]])
theorem sub_t (u : TUnit) (act : Int) (hf : fitU u) (aw : HPure Tryz.prog G 4 [] (.bool true)) (hfew : HPure Tryz.prog G 5 [eU u, .int .i64 60] (.bool true)) (hq : fewU u 60 = true) : HPure Tryz.prog G 3 [eU u, .int .i64 act] (.bool true) := by
  obtain ⟨ok, hn⟩ := few_ok hq
  obtain ⟨o1, o2, kl, ok4⟩ := okU_iff.1 ok
  have hlen : (allW u).length ≤ 36000 := by have := allW_len u ok; omega
  have hall : (wordsOf u).length + (allWs u.kids).length ≤ 36000 := by rw [allW_eq, List.length_append] at hlen; exact hlen
  have hK : ∀ k, k ∈ u.kids → HPure Tryz.prog G 6 [eU k, .int .i64 act] (.int .i64 (.ofNat (cntN act (allW k)))) := fun k hk => cba_n k act (ok4 k hk) (by have := allW_len k (ok4 k hk); have := nU_kid hk; omega)
  have hU := cba_n u act ok (by omega)
  have eO : allW ⟨0, 0, 0, 0, [], u.head, u.words, []⟩ = wordsOf u := by rw [allW_eq]; show wordsOf u ++ allWs [] = wordsOf u; rw [allWs_nil, List.append_nil]
  have hO : HPure Tryz.prog G 6 [ownV u, .int .i64 act] (.int .i64 (.ofNat (cntN act (wordsOf u)))) := by
    have h := cba_n ⟨0, 0, 0, 0, [], u.head, u.words, []⟩ act (okU_iff.2 ⟨o1, o2, Nat.zero_le _, fun k hk => by cases hk⟩) (by rw [eO]; omega)
    rw [eO] at h
    exact h.args (.cons (Le.aggB (.cons (Le.refl _) (.cons (Le.refl _) (.cons (Le.refl _) (.cons (Le.refl _) (.cons (Le.refl _) (.cons (Le.refl _) (.cons (Le.refl _) (.cons Le.nils .nil)))))))) rfl) (.cons (Le.refl _) .nil))
  have hW := wc_ok u ok (by omega)
  have eP : allW ⟨0, 0, 0, 0, [], [], [], [u]⟩ = allW u := by rw [allW_eq]; show ([] : List PWord) ++ allWs [u] = allW u; rw [allWs_cons, allWs_nil, List.append_nil]; rfl
  have hP : HPure Tryz.prog G 8 [upV u] (.ls ((sharesL (allW u)).map encPair)) := by
    have h := wc_ok ⟨0, 0, 0, 0, [], [], [], [u]⟩ (okU_iff.2 ⟨Nat.zero_le _, Nat.zero_le _, (by decide : 1 ≤ 60), fun k hk => by rw [List.mem_singleton.1 hk]; exact ok⟩) (by rw [eP]; omega)
    rw [eP] at h
    exact h.args (.cons (Le.aggB (.cons (Le.refl _) (.cons (Le.refl _) (.cons (Le.refl _) (.cons (Le.refl _) (.cons (Le.refl _) (.cons Le.nils (.cons Le.nils (.cons (Le.of_eq (congrArg (fun x => AV.ls [x]) (encU_eq u))) .nil)))))))) rfl) .nil)
  have hS : cntN act (allW u) = cntN act (wordsOf u) + cntL act u.kids := by rw [allW_eq, cntN_append]; rfl
  have hB : cntN act (wordsOf u) + cntL act u.kids ≤ 36000 := by rw [← hS]; exact Nat.le_trans (cntN_le _ _) hlen
  have hsh : (sharesL (allW u)).length < 2 ^ 31 := by
    unfold sharesL
    rw [List.length_mergeSort, List.length_map]
    exact Nat.lt_of_le_of_lt (tally_len hlen) (by decide)
  have hz : cntL act [] = 0 := cntL_nil act
  exact HPure.walk mixed gtop (ev 40) (by kernel_rfl) (by kernel_rfl) (fn := Tryz.f3) Tryz.func3 (by kernel_rfl) rfl ⟨by kernel_rfl, by kernel_rfl⟩ (.go 1 (.pure (AV.bool true) (.go 2 (.pure (AV.bool true) (.go 10 (.loop (Nat × List TUnit × Nat) [1, 2, 5, 6, 7] (subT_e0_0S u act) (subT_e0_0I u act) (fun x => x.2.1.length) (0, u.kids, 0) (fun x0 => .cs (TUnit) x0.2.1 (.go 3 (.le 21 (AV.int IntKind.i64 (Int.ofNat u.kids.length)) (.go 0 (.ff (.go 1 (.pure (AV.int IntKind.i64 (Int.ofNat (cntN act (allW u)))) (.go 2 (.pure (AV.int IntKind.i64 (Int.ofNat (cntN act (wordsOf u)))) (.asl (AV.int IntKind.i64 (Int.ofNat (x0.snd.snd + cntN act (wordsOf u)))) (.go 1 (.br (.go 0 (.tt (.pure (AV.ls (List.map encPair (sharesL (allW u)))) (.tt (.go 0 (.tt (.go 0 (.tt (.go 0 (.tt (.pure (AV.ls (List.map encPair (sharesL (allW u)))) (.tt (.pure (AV.bool true) (.pk true (.go 0 .fin))))))))))))))) (.ff (.ff (.ff (.ff (.ff (.ff (.pk false (.go 0 .fin))))))))))))))))))) (fun w0 r0 => (.go 3 (.le 21 (AV.int IntKind.i64 (Int.ofNat u.kids.length)) (.go 0 (.tt (.go 3 (.elem (eU w0) (.go 1 (.pure (AV.int IntKind.i64 (Int.ofNat (cntN act (allW w0)))) (.go 0 (.le 33 (AV.int IntKind.i64 (Int.ofNat (x0.snd.snd + cntN act (allW w0)))) (.go 2 (.le 24 (AV.int IntKind.i64 (Int.ofNat (x0.fst + 1))) (.go 0 .fin))))))))))))))))))))) (et (aw) (et (hfew) (et (Eq.refl ((subT_e0_0S u act) (0, u.kids, 0))) (et (et (rfl : List.drop 0 (u.kids) = u.kids) (by first | rfl | (omega) : (cntL act u.kids = (0 : Nat) + cntL act u.kids))) (fun (x0 : Nat × List TUnit × Nat) (hx0 : (subT_e0_0I u act) x0) => et (fun (hr0 : x0.2.1 = []) => have lt0 := rng_nil hx0.1 hr0; have hj0 : cntL act u.kids = x0.snd.snd + cntL act [] := rng_j0 (J := fun r a => cntL act u.kids = a + cntL act r) (a := x0.2.2) hr0 hx0.2; (et (Le.len (f := encU) (l := u.kids)) (et lt0 (et (hU) (et (hO) (et (Le.wn (x := Int.ofNat x0.snd.snd + Int.ofNat (cntN act (wordsOf u))) (n := x0.snd.snd + cntN act (wordsOf u)) (by first | omega | (simp only [Int.ofNat_eq_natCast, List.length_map, List.length_set] at *; omega) | (simp only [Int.ofNat_eq_natCast, List.length_map, List.length_set, List.length_append, List.length_replicate, List.length_cons, List.length_nil] at * <;> omega))) (et (fun (h1 : (eqI (Int.ofNat (cntN act (allW u))) (Int.ofNat (x0.snd.snd + cntN act (wordsOf u)))) = true) => (have gh1 := eqI_t h1; (et h1 (et (hW) (et h1 (et h1 (et h1 (et h1 (et (HPure.onArgs (.cons (Le.aggB (.cons (Le.refl _) (.cons (Le.refl _) (.cons (Le.refl _) (.cons (Le.refl _) (.cons (Le.refl _) (.cons (Le.refl _) (.cons (Le.refl _) (.cons (Le.ps ([AV.agg [AV.int IntKind.i64 u.act, AV.int IntKind.i64 u.item, AV.int IntKind.i64 u.n, AV.int IntKind.i64 u.kind, AV.str u.label, AV.ls (List.map encWord u.head), AV.ls (List.map encWord u.words), AV.ls (List.map encU u.kids)]]) _ (by first | assumption | rfl | omega | exact rng_mem hx0.1 hr0)) .nil)))))))) (by kernel_rfl)) .nil) (hP) : HPure Tryz.prog G 8 [AV.agg [AV.int IntKind.i64 0, AV.int IntKind.i64 0, AV.int IntKind.i64 0, AV.int IntKind.i64 0, AV.str [], AV.nils, AV.nils, AV.ps [AV.agg [AV.int IntKind.i64 u.act, AV.int IntKind.i64 u.item, AV.int IntKind.i64 u.n, AV.int IntKind.i64 u.kind, AV.str u.label, AV.ls (List.map encWord u.head), AV.ls (List.map encWord u.words), AV.ls (List.map encU u.kids)]] true]] _) (et h1 (et (pairs_ok (sharesL (allW u)) (sharesL (allW u)) hsh hsh (by first | assumption | rfl | omega | exact rng_mem hx0.1 hr0)) (et h1 ((Le.refl _) : Le _ (AV.bool true)))))))))))))) (fun (h1 : (eqI (Int.ofNat (cntN act (allW u))) (Int.ofNat (x0.snd.snd + cntN act (wordsOf u)))) = false) => (have gh1 := eqI_f h1; (et h1 (et h1 (et h1 (et h1 (et h1 (et h1 (et h1 ((Le.bool (by first | rfl | exact (eqI_no (by assumption) (by omega)).elim : (true) = (false))) : Le _ (AV.bool false)))))))))))))))))) (fun (w0 : TUnit) (r0 : List TUnit) (hr0 : x0.2.1 = w0 :: r0) => have lt0 := rng_lt hx0.1 hr0; have glt0 := ltI_true lt0; have nt0 := (rng_nth (enc := encU) hx0.1 hr0).trans (congrArg some (encU_eq w0)); have hj0 : cntL act u.kids = x0.snd.snd + cntL act (w0 :: r0) := rng_j1 (J := fun r a => cntL act u.kids = a + cntL act r) (a := x0.2.2) hr0 hx0.2; (have q0 : cntL act (w0 :: r0) = cntN act (allW w0) + cntL act r0 := cntL_cons act w0 r0; (have q1 : w0 ∈ u.kids := rng_mem hx0.1 hr0; (et (Le.len (f := encU) (l := u.kids)) (et lt0 (et nt0 (et (hK w0 q1) (et (Le.wn (x := Int.ofNat x0.snd.snd + Int.ofNat (cntN act (allW w0))) (n := x0.snd.snd + cntN act (allW w0)) (by first | omega | (simp only [Int.ofNat_eq_natCast, List.length_map, List.length_set] at *; omega) | (simp only [Int.ofNat_eq_natCast, List.length_map, List.length_set, List.length_append, List.length_replicate, List.length_cons, List.length_nil] at * <;> omega))) (et (Le.wn (x := Int.ofNat x0.fst + (1 : Int)) (n := x0.fst + (1 : Nat)) (by first | omega | (simp only [Int.ofNat_eq_natCast, List.length_map, List.length_set] at *; omega) | (simp only [Int.ofNat_eq_natCast, List.length_map, List.length_set, List.length_append, List.length_replicate, List.length_cons, List.length_nil] at * <;> omega))) (Nx.mk (I := (subT_e0_0I u act)) (m := (fun x => x.2.1.length)) (S := (subT_e0_0S u act)) (x := x0) (x0.fst + 1, r0, x0.snd.snd + cntN act (allW w0)) (et (rng_succ hx0.1 hr0) (by omega : (cntL act u.kids = x0.snd.snd + cntN act (allW w0) + cntL act r0))) (rng_m hr0)))))))))))))))) (by kernel_rfl)
/-- The law. -/
theorem sub_law (u : TUnit) (act : Int) (hf : fitU u) (aw : HPure Tryz.prog G 4 [] (.bool true)) : HPure Tryz.prog G 3 [eU u, .int .i64 act] (.bool true) := by
  have hfew := fewU_ok u 60 hf (by decide) (by decide)
  cases hq : fewU u 60 with
  | false => rw [hq] at hfew; exact sub_f u act hf aw hfew
  | true => rw [hq] at hfew; exact sub_t u act hf aw hfew hq
end Go.Proofs.YtanaaiebgbpieaaGreatDoor
