import Derived.Test.YtakinidhkjpibaaGreatDoorH18
import Derived.Test.YtakinidhkjpibaaGreatDoorMach7
namespace Go.Proofs.YtakinidhkjpibaaGreatDoor
open Go Go.Ev
noncomputable def zU : AV := .agg [.int .i64 0, .int .i64 0, .int .i64 0, .int .i64 0, .str [], .nils, .nils, .nils]
theorem fewP_acts {gs : List PGaz} {p : Str} (h : fewP gs p = true) : gs.length ≤ 8 ∧ (∀ g, g ∈ gs → g.acts.length ≤ 8) ∧ ∀ g, g ∈ gs → ∀ a, a ∈ g.acts → a.items.length ≤ 24 := by
  have h1 : fewG gs 24 = true := by unfold fewP at h; exact (Bool.and_eq_true_iff.1 h).1
  have hq : ∀ (bs : List PAct) (n : Int) (m : Int), 0 ≤ n → actsGo 24 bs n = some m → 0 ≤ m ∧ ∀ a, a ∈ bs → a.items.length ≤ 24 := by
    intro bs
    induction bs with
    | nil => intro n m hn h; simp only [actsGo, Option.some.injEq] at h; exact ⟨h ▸ hn, fun a ha => by cases ha⟩
    | cons b r ih =>
      intro n m hn h
      unfold actsGo at h
      cases hb : actBad 24 n b
      · rw [hb] at h
        have hz : ltI 24 (n + Int.ofNat b.items.length) = false := by unfold actBad at hb; exact (Bool.or_eq_false_iff.1 hb).1
        have := ltI_false hz
        obtain ⟨q1, q2⟩ := ih (n + Int.ofNat b.items.length) m (by simp only [Int.ofNat_eq_natCast] at *; omega) h
        refine ⟨q1, fun a ha => ?_⟩
        rcases List.mem_cons.1 ha with rfl | ha
        · simp only [Int.ofNat_eq_natCast] at *; omega
        · exact q2 a ha
      · rw [hb] at h; cases h
  have hg : ∀ (l : List PGaz) (n : Int), 0 ≤ n → gazGo 24 l n = true → ∀ g, g ∈ l → g.acts.length ≤ 8 ∧ ∀ a, a ∈ g.acts → a.items.length ≤ 24 := by
    intro l
    induction l with
    | nil => intro _ _ _ g hg; cases hg
    | cons x r ih =>
      intro n hn h g hgm
      unfold gazGo at h
      cases hb : gazBad x
      · rw [hb] at h
        cases ha : actsGo 24 x.acts n with
        | none => rw [ha] at h; cases h
        | some m =>
          rw [ha] at h
          obtain ⟨q1, q2⟩ := hq x.acts n m hn ha
          rcases List.mem_cons.1 hgm with rfl | hgm
          · have hz : ltI 8 (Int.ofNat g.acts.length) = false := by unfold gazBad at hb; exact (Bool.or_eq_false_iff.1 hb).1
            have := ltI_false hz
            exact ⟨by simp only [Int.ofNat_eq_natCast] at *; omega, q2⟩
          · exact ih m q1 h g hgm
      · rw [hb] at h; cases h
  unfold fewG at h1
  cases hb : ltI 8 (Int.ofNat gs.length)
  · rw [hb] at h1
    have := ltI_false hb
    exact ⟨by simp only [Int.ofNat_eq_natCast] at *; omega, fun g hm => (hg gs 0 (by omega) h1 g hm).1, fun g hm => (hg gs 0 (by omega) h1 g hm).2⟩
  · rw [hb] at h1; cases h1
theorem firsts_few (gs : List PGaz) (hb : ∀ g, g ∈ gs → g.acts.length ≤ 8) (hb2 : gs.length ≤ 8) : (firsts gs []).length ≤ 64 := by
  have h1 : ∀ (ys : List PAct) (out : List PAct), (ys.foldl tell out).length ≤ out.length + ys.length := by
    intro ys
    induction ys with
    | nil => intro out; simp
    | cons a r ih => intro out; simp only [List.foldl_cons, List.length_cons]; have := ih (tell out a); have := (tell_len out a).2; omega
  have h2 : ∀ (gs : List PGaz), (∀ g, g ∈ gs → g.acts.length ≤ 8) → ∀ out, (firsts gs out).length ≤ out.length + 8 * gs.length := by
    intro gs
    induction gs with
    | nil => intro _ out; simp [firsts]
    | cons g r ih =>
      intro hb out
      simp only [firsts, List.foldl_cons, List.length_cons]
      have := ih (fun g hg => hb g (List.mem_cons_of_mem _ hg)) (g.acts.foldl tell out)
      have h3 := h1 g.acts out
      have h4 := hb g (List.mem_cons_self ..)
      simp only [firsts] at this
      omega
  have := h2 gs hb []
  simp at this; omega
theorem tell_mem {out : List PAct} {a b : PAct} (h : b ∈ tell out a) : b ∈ out ∨ b = a := by
  unfold tell at h
  split at h
  · exact .inl h
  · rcases List.mem_append.1 h with h | h
    · exact .inl h
    · exact .inr (List.mem_singleton.1 h)
theorem tells_mem : ∀ (ys out : List PAct) (b : PAct), b ∈ ys.foldl tell out → b ∈ out ∨ b ∈ ys
  | [], out, b, h => .inl h
  | a :: r, out, b, h => by
    rcases tells_mem r (tell out a) b h with h | h
    · rcases tell_mem h with h | rfl
      · exact .inl h
      · exact .inr (List.mem_cons_self ..)
    · exact .inr (List.mem_cons_of_mem _ h)
theorem firsts_mem : ∀ (gs : List PGaz) (out : List PAct) (b : PAct), b ∈ firsts gs out → b ∈ out ∨ ∃ g, g ∈ gs ∧ b ∈ g.acts
  | [], out, b, h => .inl h
  | g :: r, out, b, h => by
    rcases firsts_mem r (g.acts.foldl tell out) b h with h | ⟨g2, q1, q2⟩
    · rcases tells_mem g.acts out b h with h | h
      · exact .inl h
      · exact .inr ⟨g, List.mem_cons_self .., h⟩
    · exact .inr ⟨g2, List.mem_cons_of_mem _ q1, q2⟩
theorem allDeeds_len : ∀ (l : List PAct), (∀ a, a ∈ l → a.items.length ≤ 24) → (allDeeds l).length ≤ 24 * l.length
  | [], _ => Nat.le_refl _
  | a :: r, h => by
    have := allDeeds_len r fun b hb => h b (List.mem_cons_of_mem _ hb)
    have h2 := h a (List.mem_cons_self ..)
    simp only [allDeeds, List.flatMap_cons, List.length_append, deedsOf_len, List.length_cons] at *
    omega
theorem changes_few (gs : List PGaz) (hf : fitGs gs) (q : Str) (hw : fewP gs q = true) (day : Int) (p : Str) (hq : day < 0 ∨ 1048576 < day) :
    HCall Tryz.prog G 104 [.ls (gs.map encGaz), .func (.func 105) [] [.ptr 1 0 0 0, .ptr 0 0 0 0, .ptr 2 0 0 0]] (mkH [dayO day, strO p, nilO]) (fun v h => v = .tuple [] ∧ h = mkH [dayO day, strO p, nilO]) := by
  obtain ⟨a1, a2, a3⟩ := fewP_acts hw
  have b1 := firsts_few gs a2 a1
  have b2 : ∀ a, a ∈ firsts gs [] → a.items.length ≤ 24 := fun a ha => by
    rcases firsts_mem gs [] a ha with h | ⟨g, h1, h2⟩
    · cases h
    · exact a3 g h1 a h2
  exact changes_ok gs hf (fun g hg => Nat.lt_of_le_of_lt (a2 g hg) (by decide)) (by omega) (by omega) (fun a ha => Nat.lt_of_le_of_lt (b2 a ha) (by decide)) (fun l hl => by
    have := allDeeds_len l fun a ha => b2 a (hl.2 a ha)
    have := hl.1
    omega) day p hq
theorem on_few (day : Int) (p : Str) (gs : List PGaz) (hf : fitGs gs) (q : Str) (hw : fewP gs q = true) (hq : day < 0 ∨ 1048576 < day) : HPure Tryz.prog G 68 [.int .i64 day, .str p, .ls (gs.map encGaz)] .nils := by
  have hch := changes_few gs hf q hw day p hq
  exact HPure.walk mixed gtop (ev 40) (by kernel_rfl) (by kernel_rfl) (fn := Tryz.f68) Tryz.func68 (by kernel_rfl) rfl ⟨by kernel_rfl, by kernel_rfl⟩ (.go 5 (.efd (AV.tuple []) (mkH [dayO day, strO p, nilO]) (.go 1 .fin))) (et (hch) ((Le.refl _) : Le _ (AV.nils))) (by kernel_rfl)
theorem on_nil (day : Int) (p : Str) : HPure Tryz.prog G 68 [.int .i64 day, .str p, .nils] .nils := by
  exact HPure.walk mixed gtop (ev 40) (by kernel_rfl) (by kernel_rfl) (fn := Tryz.f68) Tryz.func68 (by kernel_rfl) rfl ⟨by kernel_rfl, by kernel_rfl⟩ (.go 8 .fin) ((Le.refl _) : Le _ (AV.nils)) (by kernel_rfl)
theorem row_few (day : Int) (p : Str) (gs : List PGaz) (hf : fitGs gs) (q : Str) (hw : fewP gs q = true) (hq : day < 0 ∨ 1048576 < day) : HPure Tryz.prog G 29 [.int .i64 day, .str p, .ls (gs.map encGaz)] .nils := by
  have hon := on_few day p gs hf q hw hq
  exact HPure.walk mixed gtop (ev 40) (by kernel_rfl) (by kernel_rfl) (fn := Tryz.f29) Tryz.func29 (by kernel_rfl) rfl ⟨by kernel_rfl, by kernel_rfl⟩ (.go 3 (.pure (AV.nils) (.go 0 .fin))) (et (hon) ((Le.refl _) : Le _ (AV.nils))) (by kernel_rfl)
theorem row_nil (day : Int) (p : Str) : HPure Tryz.prog G 29 [.int .i64 day, .str p, .nils] .nils := by
  exact HPure.walk mixed gtop (ev 40) (by kernel_rfl) (by kernel_rfl) (fn := Tryz.f29) Tryz.func29 (by kernel_rfl) rfl ⟨by kernel_rfl, by kernel_rfl⟩ (.go 3 (.pure (AV.nils) (.go 0 .fin))) (et (on_nil day p) ((Le.refl _) : Le _ (AV.nils))) (by kernel_rfl)
theorem dbook_nil : HPure Tryz.prog G 30 [.nils] (.tuple [zU, .nils]) := by
  exact HPure.walk mixed gtop (ev 40) (by kernel_rfl) (by kernel_rfl) (fn := Tryz.f30) Tryz.func30 (by kernel_rfl) rfl ⟨by kernel_rfl, by kernel_rfl⟩ (.go 8 .fin) ((Le.refl _) : Le _ (AV.tuple [AV.agg [AV.int IntKind.i64 0, AV.int IntKind.i64 0, AV.int IntKind.i64 0, AV.int IntKind.i64 0, AV.str [], AV.nils, AV.nils, AV.nils], AV.nils])) (by kernel_rfl)
theorem same_nil : HPure Tryz.prog G 14 [zU, zU] (.bool true) := by
  exact HPure.walk mixed gtop (ev 40) (by kernel_rfl) (by kernel_rfl) (fn := Tryz.f14) Tryz.func14 (by kernel_rfl) rfl ⟨by kernel_rfl, by kernel_rfl⟩ (.go 48 (.loop Unit [2, 3, 5] (fun _ => ([AV.ptr 0 0 0 0, AV.ptr 1 0 0 0, AV.int IntKind.i64 0], [AObj.row 8 false 0 [AV.agg [AV.int IntKind.i64 0, AV.int IntKind.i64 0, AV.int IntKind.i64 0, AV.int IntKind.i64 0, AV.str [], AV.nils, AV.nils, AV.nils]], AObj.row 8 false 0 [AV.agg [AV.int IntKind.i64 0, AV.int IntKind.i64 0, AV.int IntKind.i64 0, AV.int IntKind.i64 0, AV.str [], AV.nils, AV.nils, AV.nils]]])) (fun _ => True) (fun _ => 0) () (fun _ => (.go 6 .fin)))) (et (Eq.refl (([AV.ptr 0 0 0 0, AV.ptr 1 0 0 0, AV.int IntKind.i64 0], [AObj.row 8 false 0 [AV.agg [AV.int IntKind.i64 0, AV.int IntKind.i64 0, AV.int IntKind.i64 0, AV.int IntKind.i64 0, AV.str [], AV.nils, AV.nils, AV.nils]], AObj.row 8 false 0 [AV.agg [AV.int IntKind.i64 0, AV.int IntKind.i64 0, AV.int IntKind.i64 0, AV.int IntKind.i64 0, AV.str [], AV.nils, AV.nils, AV.nils]]]) : List AV × List AObj)) (et True.intro (fun (_ : Unit) (_ : True) => ((Le.refl _) : Le _ (AV.bool true))))) (by kernel_rfl)
theorem book_nil (day : Int) (p : Str) : HPure Tryz.prog G 13 [.int .i64 day, .str p, .nils] zU := by
  exact HPure.walk mixed gtop (ev 40) (by kernel_rfl) (by kernel_rfl) (fn := Tryz.f13) Tryz.func13 (by kernel_rfl) rfl ⟨by kernel_rfl, by kernel_rfl⟩ (.go 3 (.pure (AV.nils) (.pure (AV.tuple [AV.agg [AV.int IntKind.i64 0, AV.int IntKind.i64 0, AV.int IntKind.i64 0, AV.int IntKind.i64 0, AV.str [], AV.nils, AV.nils, AV.nils], AV.nils]) (.go 7 .fin)))) (et (row_nil day p) (et (dbook_nil) ((Le.refl _) : Le _ (AV.agg [AV.int IntKind.i64 0, AV.int IntKind.i64 0, AV.int IntKind.i64 0, AV.int IntKind.i64 0, AV.str [], AV.nils, AV.nils, AV.nils])))) (by kernel_rfl)
theorem book_few (day : Int) (p : Str) (gs : List PGaz) (hf : fitGs gs) (q : Str) (hw : fewP gs q = true) (hq : day < 0 ∨ 1048576 < day) : HPure Tryz.prog G 13 [.int .i64 day, .str p, .ls (gs.map encGaz)] zU := by
  have hon := row_few day p gs hf q hw hq
  exact HPure.walk mixed gtop (ev 40) (by kernel_rfl) (by kernel_rfl) (fn := Tryz.f13) Tryz.func13 (by kernel_rfl) rfl ⟨by kernel_rfl, by kernel_rfl⟩ (.go 3 (.pure (AV.nils) (.pure (AV.tuple [AV.agg [AV.int IntKind.i64 0, AV.int IntKind.i64 0, AV.int IntKind.i64 0, AV.int IntKind.i64 0, AV.str [], AV.nils, AV.nils, AV.nils], AV.nils]) (.go 7 .fin)))) (et (hon) (et (dbook_nil) ((Le.refl _) : Le _ (AV.agg [AV.int IntKind.i64 0, AV.int IntKind.i64 0, AV.int IntKind.i64 0, AV.int IntKind.i64 0, AV.str [], AV.nils, AV.nils, AV.nils])))) (by kernel_rfl)
theorem fail_nil (day : Int) (p : Str) : HPure Tryz.prog G 15 [.int .i64 day, .str p, .nils] .nils := by
  exact HPure.walk mixed gtop (ev 40) (by kernel_rfl) (by kernel_rfl) (fn := Tryz.f15) Tryz.func15 (by kernel_rfl) rfl ⟨by kernel_rfl, by kernel_rfl⟩ (.go 3 (.pure (AV.nils) (.pure (AV.tuple [AV.agg [AV.int IntKind.i64 0, AV.int IntKind.i64 0, AV.int IntKind.i64 0, AV.int IntKind.i64 0, AV.str [], AV.nils, AV.nils, AV.nils], AV.nils]) (.go 7 .fin)))) (et (row_nil day p) (et (dbook_nil) ((Le.refl _) : Le _ (AV.nils)))) (by kernel_rfl)
theorem fail_few (day : Int) (p : Str) (gs : List PGaz) (hf : fitGs gs) (q : Str) (hw : fewP gs q = true) (hq : day < 0 ∨ 1048576 < day) : HPure Tryz.prog G 15 [.int .i64 day, .str p, .ls (gs.map encGaz)] .nils := by
  have hon := row_few day p gs hf q hw hq
  exact HPure.walk mixed gtop (ev 40) (by kernel_rfl) (by kernel_rfl) (fn := Tryz.f15) Tryz.func15 (by kernel_rfl) rfl ⟨by kernel_rfl, by kernel_rfl⟩ (.go 3 (.pure (AV.nils) (.pure (AV.tuple [AV.agg [AV.int IntKind.i64 0, AV.int IntKind.i64 0, AV.int IntKind.i64 0, AV.int IntKind.i64 0, AV.str [], AV.nils, AV.nils, AV.nils], AV.nils]) (.go 7 .fin)))) (et (hon) (et (dbook_nil) ((Le.refl _) : Le _ (AV.nils)))) (by kernel_rfl)
theorem range_law (day : Int) (p : Str) (gs : List PGaz) (hf : fitGs gs) (haw : HPure Tryz.prog G 11 [] (.bool true)) : HPure Tryz.prog G 5 [.int .i64 day, .str p, .ls (gs.map encGaz)] (.bool true) := by
  exact HPure.walk mixed gtop (ev 40) (by kernel_rfl) (by kernel_rfl) (fn := Tryz.f5) Tryz.func5 (by kernel_rfl) rfl ⟨by kernel_rfl, by kernel_rfl⟩ (.go 0 (.pure (AV.bool true) (.go 3 (.pure (AV.bool (fewP gs p)) (.go 0 (.br (.go 0 .fin) (.go 1 (.pure (AV.agg [AV.int IntKind.i64 0, AV.int IntKind.i64 0, AV.int IntKind.i64 0, AV.int IntKind.i64 0, AV.str [], AV.nils, AV.nils, AV.nils]) (.go 3 (.pure (AV.bool true) (.go 3 (.pure (AV.nils) (.go 6 (.br (.go 0 (.tt (.go 0 (.pk true (.br (.go 0 .fin) (.go 2 (.pure (AV.agg [AV.int IntKind.i64 0, AV.int IntKind.i64 0, AV.int IntKind.i64 0, AV.int IntKind.i64 0, AV.str [], AV.nils, AV.nils, AV.nils]) (.go 0 (.pure (AV.bool true) (.go 3 (.pure (AV.nils) (.go 3 .fin)))))))))))) (.ff (.pk false (.go 3 (.pure (AV.agg [AV.int IntKind.i64 0, AV.int IntKind.i64 0, AV.int IntKind.i64 0, AV.int IntKind.i64 0, AV.str [], AV.nils, AV.nils, AV.nils]) (.go 0 (.pure (AV.bool true) (.go 3 (.pure (AV.nils) (.go 3 .fin))))))))))))))))))))))) (et (haw) (et (fewP_ok gs p hf) (et (fun (z : bnot (fewP gs p) = true) => have h0 : fewP gs p = false := (of_bnotT z); ((Le.refl _) : Le _ (AV.bool true))) (fun (z : bnot (fewP gs p) = false) => have h0 : fewP gs p = true := (of_bnotF z); (et (book_nil day p) (et (same_nil) (et (fail_nil day p) (et (fun (z : bnot (ltI day 0) = true) => have h1 : ltI day 0 = false := (of_bnotT z); (have gh1 := ltI_false h1; (et (bnT h1) (et (bnT h1) (et (fun (z : bnot (ltI 1048576 day) = true) => have h2 : ltI 1048576 day = false := (of_bnotT z); (have gh2 := ltI_false h2; ((Le.refl _) : Le _ (AV.bool true)))) (fun (z : bnot (ltI 1048576 day) = false) => have h2 : ltI 1048576 day = true := (of_bnotF z); (have gh2 := ltI_true h2; (et (book_few day p gs hf p h0 (by first | assumption | omega)) (et (same_nil) (et (fail_few day p gs hf p h0 (by first | assumption | omega)) ((Le.refl _) : Le _ (AV.bool true)))))))))))) (fun (z : bnot (ltI day 0) = false) => have h1 : ltI day 0 = true := (of_bnotF z); (have gh1 := ltI_true h1; (et (bnF h1) (et (bnF h1) (et (book_few day p gs hf p h0 (by first | assumption | omega)) (et (same_nil) (et (fail_few day p gs hf p h0 (by first | assumption | omega)) ((Le.refl _) : Le _ (AV.bool true))))))))))))))))) (by kernel_rfl)
end Go.Proofs.YtakinidhkjpibaaGreatDoor
