/- An abstract machine for closed runs and for walks, proved sound against the model: part 8 of 8. No conditions. -/
import Derived.Test.YtjnecjhkmhhnnaaGreatDoorMach7
import Derived.Lib.LaidTab
import Derived.Lib.ItoaNum

/- Numbers in decimal, by what the kit says of the library: with a table among the package-level variables. -/
namespace Go.Ev
open Go Go.RowKit

section
variable {P : Program} {G : Env} {pl : Pl} {M : Mem} {h : AHeap} {w w' : World} {f : FuncId}

/-- A table of numbers, as the kit asks for it. -/
theorem tab_of {name : String} {g : Nat} {k : IntKind} {zs : List Int} (hG : GOk G pl M) (hr : Rep pl M h w) (hx : G g = some (.agg (zs.map fun z => .int k z))) (hn : P.globalNamed name = some g) : Lib.TabIs P w name k zs := by
  obtain ⟨h1, c, h2, h3⟩ := hG g _ hx
  obtain ⟨t, fr, hb⟩ := hr.imm g c h2
  have hlen : c.size = zs.length := by rw [h3]; simp [AV.cells]
  have hel : ∀ j, j < zs.length → c.getD j undef = .int k (zs.getD j 0) := fun j hj => by
    generalize hp : (Value.pointer (some (⟨g, 0, none⟩ : Addr))) = pv at h1
    cases h1 with
    | pptr hm hs hi hc =>
      rename_i a sz c'
      simp only [Value.pointer.injEq, Option.some.injEq, Addr.mk.injEq] at hp
      obtain ⟨e1, e2, _⟩ := hp
      rw [← e1, h2] at hm
      have ec : c' = c := (Option.some.inj hm.2.1).symm
      subst ec
      have e3 : a.off = 0 := by omega
      have := hc 0 (.agg (zs.map fun z => .int k z)) j (.int k (zs.getD j 0)) rfl (by simp [AV.cells, hj])
      rw [e3] at this
      simp only [Nat.zero_mul, Nat.zero_add] at this
      generalize c'.getD j undef = y at this ⊢
      cases this; rfl
  unfold Lib.TabIs
  simp only [World.var?, hn, Option.bind_some, hb]
  refine congrArg some (Array.ext (by simp [hlen]) fun j h4 h5 => ?_)
  have := hel j (by omega)
  rw [Array.getD_eq_getD_getElem?, Array.getElem?_eq_getElem h4] at this
  have h6 : j < zs.length := by omega
  have e4 : c[j] = .int k (zs.getD j 0) := this
  rw [e4]
  simp [List.getD_eq_getElem?_getD, h6]
/-- strconv.FormatInt at base 10. -/
theorem formatInt_call {tab : String} {g : Nat} {zs : List Int} (hE : ∀ vs w, (callFunc f vs).run P w = .ok (.enter f vs) w)
    (hC : ∀ (n : Int) (w : World), -9223372036854775808 ≤ n → n ≤ 9223372036854775807 → Lib.TabIs P w tab .u64 zs → Calls P f #[.int .i64 n, .int .i64 10] w fun e w' => e = .returned (.string ⟨(Lib.itoa n).toArray⟩) ∧ ∃ k os, w' = Go.Sort.grow (w.drewN k) os)
    (hx : G g = some (.agg (zs.map fun z => .int .u64 z))) (hn : P.globalNamed tab = some g) (n : Int) (h0 : -9223372036854775808 ≤ n) (h1 : n ≤ 9223372036854775807) : HPure P G f [.int .i64 n, .int .i64 10] (.str (Lib.itoa n)) :=
  HPure.below hE fun pl M w vs h hG hr hv => by
    obtain ⟨a, b, rfl, hv1, hv2⟩ := args2 hv
    cases hv1
    cases hv2
    refine ⟨.string ⟨⟨Lib.itoa n⟩⟩, .str _, Calls.mono (hC n w h0 h1 (tab_of hG hr hx hn)) fun e w' ⟨he, k, os, hw⟩ => ⟨he, ?_⟩⟩
    rw [hw]
    exact ⟨rfl, rfl, rfl, by simp [Go.Sort.grow, World.drewN], fun j hj => by simp [Go.Sort.grow, World.drewN, Array.getElem?_append, hj]⟩
/-- strconv.Itoa. -/
theorem itoa_call {tab : String} {g : Nat} {zs : List Int} (hE : ∀ vs w, (callFunc f vs).run P w = .ok (.enter f vs) w)
    (hC : ∀ (n : Int) (w : World), -9223372036854775808 ≤ n → n ≤ 9223372036854775807 → Lib.TabIs P w tab .u64 zs → Calls P f #[.int .i64 n] w fun e w' => e = .returned (.string ⟨(Lib.itoa n).toArray⟩) ∧ ∃ k os, w' = Go.Sort.grow (w.drewN k) os)
    (hx : G g = some (.agg (zs.map fun z => .int .u64 z))) (hn : P.globalNamed tab = some g) (n : Int) (h0 : -9223372036854775808 ≤ n) (h1 : n ≤ 9223372036854775807) : HPure P G f [.int .i64 n] (.str (Lib.itoa n)) :=
  HPure.below hE fun pl M w vs h hG hr hv => by
    obtain ⟨a, rfl, hv1⟩ := args1 hv
    cases hv1
    refine ⟨.string ⟨⟨Lib.itoa n⟩⟩, .str _, Calls.mono (hC n w h0 h1 (tab_of hG hr hx hn)) fun e w' ⟨he, k, os, hw⟩ => ⟨he, ?_⟩⟩
    rw [hw]
    exact ⟨rfl, rfl, rfl, by simp [Go.Sort.grow, World.drewN], fun j hj => by simp [Go.Sort.grow, World.drewN, Array.getElem?_append, hj]⟩
end
/-! Bytes made texts. -/
theorem u8_wrap (n : Int) : ∃ k : Nat, IntKind.u8.wrap n = .ofNat k ∧ k < 256 ∧ (k : Int) = n % 256 := by
  have h1 := Int.emod_nonneg n (show (256 : Int) ≠ 0 by decide)
  have h2 := Int.emod_lt_of_pos n (show (0 : Int) < 256 by decide)
  refine ⟨(n % 256).toNat, ?_, by omega, by omega⟩
  have e : IntKind.u8.wrap n = n % 256 := by simp [IntKind.wrap, IntKind.bits, IntKind.signed]
  rw [e, Int.ofNat_eq_natCast]; omega
theorem b1_val {n : Int} {t : Bool} {H : AHeap} : retV H (convBytesStr AHeap.none (some (.ps [.int .u8 (IntKind.u8.wrap n)] t))) = some (.val (.str [UInt8.ofNat (IntKind.u8.wrap n).toNat]) H) := by
  obtain ⟨k, e1, e2, _⟩ := u8_wrap n
  rw [e1]
  have e3 : Nat.blt k 256 = true := Nat.blt_eq.symm ▸ e2
  simp only [convBytesStr, elemsR, bytesR, e3, retV]
  rfl
theorem b1_dig {d : Nat} (h : d < 10) : UInt8.ofNat (IntKind.u8.wrap (.ofNat (48 + d))).toNat = UInt8.ofNat (48 + d) := by
  obtain ⟨k, e1, e2, e3⟩ := u8_wrap (.ofNat (48 + d))
  rw [e1]
  have : k = 48 + d := by simp only [Int.ofNat_eq_natCast] at e3; omega
  rw [this]; rfl
theorem tmod10 (n : Nat) : (Int.ofNat n).tmod 10 = Int.ofNat (n % 10) := rfl
theorem tdiv10 (n : Nat) : (Int.ofNat n).tdiv 10 = Int.ofNat (n / 10) := rfl
theorem tmod10' (n : Nat) : ((n : Nat) : Int).tmod 10 = ((n % 10 : Nat) : Int) := rfl
theorem tdiv10' (n : Nat) : ((n : Nat) : Int).tdiv 10 = ((n / 10 : Nat) : Int) := rfl
theorem dig_next {m n : Nat} {r : Str} (h : Lib.decDigits m = Lib.decDigits n ++ r) (hn : 9 < Int.ofNat n) : Lib.decDigits m = Lib.decDigits (n / 10) ++ UInt8.ofNat (IntKind.u8.wrap (48 + (Int.ofNat n).tmod 10)).toNat :: r := by
  have h1 : ¬ n < 10 := by simp only [Int.ofNat_eq_natCast] at hn; omega
  have e : (48 : Int) + (Int.ofNat n).tmod 10 = .ofNat (48 + n % 10) := by rw [tmod10]; simp only [Int.ofNat_eq_natCast]; omega
  rw [h, e, b1_dig (Nat.mod_lt _ (by decide)), Lib.decDigits, dif_neg h1, List.append_assoc]; rfl
theorem dig_last {m n : Nat} {r : Str} (h : Lib.decDigits m = Lib.decDigits n ++ r) (hn : Int.ofNat n ≤ 9) : Lib.decDigits m = UInt8.ofNat (IntKind.u8.wrap (48 + Int.ofNat n)).toNat :: r := by
  have h1 : n < 10 := by simp only [Int.ofNat_eq_natCast] at hn; omega
  have e : (48 : Int) + Int.ofNat n = .ofNat (48 + n) := by simp only [Int.ofNat_eq_natCast]; omega
  rw [h, e, b1_dig h1, Lib.decDigits_one h1]; rfl
theorem dig_len {m : Nat} (h : m < 2 ^ 63) : (Lib.decDigits m).length ≤ 21 := by
  rw [Lib.decDigits_length]
  by_cases h0 : m = 0
  · rw [h0, Lib.nDigits_small (by decide)]; decide
  · obtain ⟨h1, h2⟩ := Lib.numDigits_eq m (by omega) (by omega)
    rw [← h1]; split <;> omega
theorem dig_rest {m n : Nat} {r : Str} (hm : m < 2 ^ 63) (h : Lib.decDigits m = Lib.decDigits n ++ r) : r.length ≤ 21 := by
  have h1 := dig_len hm
  rw [h, List.length_append] at h1; omega
theorem itoa_neg {k : Nat} (h : 0 < k) : Lib.itoa (-(k : Int)) = 45 :: Lib.decDigits k := by
  unfold Lib.itoa
  rw [if_pos (by omega), Int.natAbs_neg, Int.natAbs_natCast]
theorem b1_int {x : Int} {d : Nat} (hx : x = 48 + (d : Int)) (hd : d < 10) : UInt8.ofNat (IntKind.u8.wrap x).toNat = UInt8.ofNat (48 + d) := by
  have e : x = .ofNat (48 + d) := by rw [hx, Int.ofNat_eq_natCast]; omega
  rw [e]; exact b1_dig hd
theorem dgB {n : Int} (h1 : -10 < n) (h2 : n < 0) : Lib.itoa n = 45 :: [UInt8.ofNat (IntKind.u8.wrap (48 - n)).toNat] := by
  obtain ⟨k, rfl⟩ : ∃ k : Nat, n = -(k : Int) := ⟨n.natAbs, by omega⟩
  have hk : k < 10 := by omega
  rw [itoa_neg (by omega), Lib.decDigits_one hk, b1_int (d := k) (by omega) hk]
theorem dgS {n : Int} (h1 : n ≤ -10) : Lib.itoa n = Lib.itoa (n.tdiv 10) ++ [UInt8.ofNat (IntKind.u8.wrap (48 - n.tmod 10)).toNat] := by
  obtain ⟨k, rfl⟩ : ∃ k : Nat, n = -(k : Int) := ⟨n.natAbs, by omega⟩
  have hk : ¬ k < 10 := by omega
  have e1 : (-(k : Int)).tdiv 10 = -((k / 10 : Nat) : Int) := by rw [Int.neg_tdiv]; rfl
  have e2 : (-(k : Int)).tmod 10 = -((k % 10 : Nat) : Int) := by rw [Int.neg_tmod]; rfl
  rw [e1, e2, itoa_neg (by omega), itoa_neg (by omega), Lib.decDigits, dif_neg hk, b1_int (d := k % 10) (by omega) (Nat.mod_lt _ (by decide))]
  rfl
theorem itoa_len {n : Int} (h : -9223372036854775808 ≤ n) (h2 : n < 0) : (Lib.itoa n).length ≤ 30 := by
  obtain ⟨k, rfl⟩ : ∃ k : Nat, n = -(k : Int) := ⟨n.natAbs, by omega⟩
  rw [itoa_neg (by omega), List.length_cons, Lib.decDigits_length]
  obtain ⟨h1, h3⟩ := Lib.numDigits_eq k (by omega) (by omega)
  rw [← h1]; split <;> omega
end Go.Ev
