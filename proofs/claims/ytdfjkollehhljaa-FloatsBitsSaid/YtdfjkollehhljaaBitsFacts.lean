/- Plain facts for FloatsBits: signs as bits; whole numbers of 32 bits there and back; pairs of cuts as Do does them. -/
import Derived.Test.YtdfjkollehhljaaCuts
import Derived.Test.YtdfjkollehhljaaKnown
namespace Go.Proofs.Ytdfjkollehhljaa
open Go.RowKit Ieee

theorem sign_bits (x : Nat) : x &&& (18446744073709551615 - 9223372036854775808) = x % 2 ^ 63 ∧ x &&& 9223372036854775807 = x % 2 ^ 63 := by
  have e : (9223372036854775807 : Nat) = 2 ^ 63 - 1 := by decide
  have e2 : (18446744073709551615 - 9223372036854775808 : Nat) = 2 ^ 63 - 1 := by decide
  rw [e, e2, Nat.and_two_pow_sub_one_eq_mod]
  exact ⟨rfl, rfl⟩
theorem top_bit (x : Nat) (h : x < 2 ^ 64) : x &&& 2 ^ 63 = x / 2 ^ 63 * 2 ^ 63 := by
  apply Nat.eq_of_testBit_eq
  intro i
  rw [Nat.testBit_and, Nat.testBit_two_pow, Nat.testBit_mul_two_pow, Nat.testBit_div_two_pow]
  by_cases hi : i = 63
  · subst hi; simp
  · by_cases h2 : 63 ≤ i
    · have : x.testBit i = false := Nat.testBit_lt_two_pow (Nat.lt_of_lt_of_le h (Nat.pow_le_pow_right (by decide) (by omega)))
      have e : 63 + (i - 63) = i := by omega
      simp [this, e, Nat.add_comm]
    · have e3 : ¬ (63 = i) := fun h => hi h.symm
      simp [h2, e3]
theorem low_or_top (x : Nat) : (x % 2 ^ 63) ||| (x / 2 ^ 63 * 2 ^ 63) = x := by
  rw [Nat.or_comm, Nat.mul_comm, ← Nat.two_pow_add_eq_or_of_lt (Nat.mod_lt _ (Nat.two_pow_pos _))]
  omega
section
variable (a : Int) (a0 : 0 ≤ a) (a1 : a < 18446744073709551616)
include a0 a1
theorem abs_bits : bits .andNot .u64 a 9223372036854775808 = bits .and .u64 a 9223372036854775807 := by
  rw [u64_andNot a _ a0 a1 (by omega) (by omega), u64_and a _ a0 a1 (by omega) (by omega)]
  have := sign_bits a.toNat
  have e1 : (9223372036854775808 : Int).toNat = 9223372036854775808 := by decide
  have e2 : (9223372036854775807 : Int).toNat = 9223372036854775807 := by decide
  rw [e1, e2, this.1]
theorem abs_val : bits .andNot .u64 a 9223372036854775808 = a % 9223372036854775808 := by
  rw [abs_bits a a0 a1, u64_and a _ a0 a1 (by omega) (by omega)]
  have e2 : (9223372036854775807 : Int).toNat = 9223372036854775807 := by decide
  rw [e2, (sign_bits a.toNat).2]
  omega
theorem neg_back : bits .xor .u64 (bits .xor .u64 a 9223372036854775808) 9223372036854775808 = a := by
  rw [u64_xor a _ a0 a1 (by omega) (by omega)]
  have e1 : (9223372036854775808 : Int).toNat = 2 ^ 63 := by decide
  rw [e1]
  have hlt : a.toNat ^^^ 2 ^ 63 < 2 ^ 64 := Nat.xor_lt_two_pow (by omega) (by decide)
  rw [u64_xor _ _ (by omega) (by omega) (by omega) (by omega), e1, Int.toNat_natCast, Nat.xor_assoc, Nat.xor_self, Nat.xor_zero]
  omega
theorem copy_back : bits .or .u64 (bits .andNot .u64 (bits .andNot .u64 a 9223372036854775808) 9223372036854775808) (bits .and .u64 a 9223372036854775808) = a := by
  rw [abs_val a a0 a1, abs_val _ (by omega) (by omega), u64_and a _ a0 a1 (by omega) (by omega)]
  have e1 : (9223372036854775808 : Int).toNat = 2 ^ 63 := by decide
  rw [e1, top_bit a.toNat (by omega), u64_or _ _ (by omega) (by omega) (by omega) (by omega)]
  have e2 : (a % 9223372036854775808 % 9223372036854775808).toNat = a.toNat % 2 ^ 63 := by omega
  rw [e2, Int.toNat_natCast, low_or_top a.toNat]
  omega
end

theorem wd_of_int (z : Int) : floatOfInt .f64 z = wd (decide (z < 0)) z.natAbs := rfl
theorem back_u (n : Int) (n0 : 0 ≤ n) (n1 : n < 4294967296) (w : World) : Calls Try.prog 7 #[.int .i64 171, .int .u64 (floatOfInt .f64 n : Nat), .int .u64 0] w (CutEnd n 0 w) := by
  obtain ⟨k, rfl⟩ := Int.eq_ofNat_of_zero_le n0
  have hw : Fl.Whole k := Fl.whole_lt (by omega)
  have e : floatOfInt .f64 (k : Int) = wd false k := by
    rw [wd_of_int, show decide ((k : Int) < 0) = false from by simp, Int.natAbs_natCast]
  have hx : flr .zero (wd false k) = wd false k := flr_wd hw false _
  have hs : signed false k 0 = (k : Int) := by rw [signed_0]; rfl
  have g1 := geB_of (ord_zero hw false)
  have g2 := ltB_of (ord_4751297606875873280 hw false)
  have g3 := geB_of (ord_4890909195324358656 hw false)
  rw [hs, ← hx] at g1 g2 g3
  have hi := toInt_wd hw false (by omega) (by omega)
  rw [hs, ← hx] at hi
  rw [e]
  refine do_171 _ _ _ _ w fun w => ?_
  have := cut_171_in (wd false k) k w (wd_num _ _) (by rw [g1]; simp) (by rw [g2]; simp; omega) hi (by rw [g3]; simp; omega)
  have ev : IntKind.u64.wrap (IntKind.u64.wrap (k : Int) * 4294967296) / 4294967296 = (k : Int) := by
    simp only [IntKind.wrap, IntKind.bits, IntKind.signed]
    simp
    omega
  rw [ev] at this
  exact this
theorem sign_val (n : Int) (n0 : 0 ≤ n) (n1 : n < 4294967296) : wrap64 (IntKind.u64.wrap (n * 4294967296)) / 4294967296 = if n < 2147483648 then n else n - 4294967296 := by
  simp only [IntKind.wrap, IntKind.bits, IntKind.signed]
  unfold wrap64
  simp
  split <;> omega
theorem back_s (n : Int) (n0 : 0 ≤ n) (n1 : n < 4294967296) (w : World) : Calls Try.prog 7 #[.int .i64 170, .int .u64 (floatOfInt .f64 (wrap64 (IntKind.u64.wrap (n * 4294967296)) / 4294967296) : Nat), .int .u64 0] w (CutEnd n 0 w) := by
  rw [sign_val n n0 n1]
  obtain ⟨z, hz⟩ : ∃ z, (if n < 2147483648 then n else n - 4294967296) = z := ⟨_, rfl⟩
  have hb : -2147483648 ≤ z ∧ z < 2147483648 ∧ (z = n ∨ z = n - 4294967296) := by
    rw [← hz]
    split <;> omega
  rw [hz]
  have hw : Fl.Whole z.natAbs := Fl.whole_lt (by omega)
  have hx : flr .zero (wd (decide (z < 0)) z.natAbs) = wd (decide (z < 0)) z.natAbs := flr_wd hw _ _
  have hs : signed (decide (z < 0)) z.natAbs 0 = z := by
    rw [signed_0]
    by_cases q : z < 0
    · simp [q]; omega
    · simp [q]; omega
  have g1 := geB_of (ord_13970166044103278592 hw (decide (z < 0)))
  have g2 := ltB_of (ord_4746794007248502784 hw (decide (z < 0)))
  rw [hs, ← hx] at g1 g2
  have hi := toInt_wd hw (decide (z < 0)) (by omega) (by omega)
  rw [hs, ← hx] at hi
  rw [wd_of_int]
  refine do_170 _ _ _ _ w fun w => ?_
  have := cut_170_in (wd (decide (z < 0)) z.natAbs) z w (wd_num _ _) (by rw [g1]; simp; omega) (by rw [g2]; simp; omega) hi
  have ev : IntKind.u64.wrap (IntKind.u64.wrap z * 4294967296) / 4294967296 = n := by
    simp only [IntKind.wrap, IntKind.bits, IntKind.signed]
    simp
    omega
  rw [ev] at this
  exact this
theorem and_u32 (n : Int) (n0 : 0 ≤ n) (n1 : n < 4294967296) : bits .and .u64 n 4294967295 = n := by
  rw [u64_and n _ n0 (by omega) (by omega) (by omega)]
  have : (4294967295 : Int).toNat = 2 ^ 32 - 1 := by decide
  rw [this, Nat.and_two_pow_sub_one_eq_mod]
  omega

/-- What Do comes to at an op that traps and at the soft one beside it. -/
def PairDo (hard soft a : Int) : Prop :=
  (∃ v, (∀ w, Calls Try.prog 7 #[.int .i64 hard, .int .u64 a, .int .u64 0] w (CutEnd v 0 w)) ∧ (∀ w, Calls Try.prog 7 #[.int .i64 soft, .int .u64 a, .int .u64 0] w (CutEnd v 0 w))) ∨
  (∃ v, (∀ w, Calls Try.prog 7 #[.int .i64 hard, .int .u64 a, .int .u64 0] w (CutEnd 0 3 w)) ∧ (∀ w, Calls Try.prog 7 #[.int .i64 soft, .int .u64 a, .int .u64 0] w (CutEnd v 0 w))) ∨
  (nanB a.toNat = true ∧ (∀ w, Calls Try.prog 7 #[.int .i64 hard, .int .u64 a, .int .u64 0] w (CutEnd 0 4 w)) ∧ (∀ w, Calls Try.prog 7 #[.int .i64 soft, .int .u64 a, .int .u64 0] w (CutEnd 0 0 w)))
theorem pairDo {hard soft a : Int} (d1 : ∀ v t w, (∀ w, Calls Try.prog 18 #[.int .i64 hard, .float .f64 a.toNat] w (CutEnd v t w)) → Calls Try.prog 7 #[.int .i64 hard, .int .u64 a, .int .u64 0] w (CutEnd v t w))
    (d2 : ∀ v t w, (∀ w, Calls Try.prog 18 #[.int .i64 soft, .float .f64 a.toNat] w (CutEnd v t w)) → Calls Try.prog 7 #[.int .i64 soft, .int .u64 a, .int .u64 0] w (CutEnd v t w)) (h : Pair hard soft a.toNat) : PairDo hard soft a := by
  rcases h with ⟨v, h1, h2⟩ | ⟨v, h1, h2⟩ | ⟨hn, h1, h2⟩
  · exact .inl ⟨v, fun w => d1 _ _ w h1, fun w => d2 _ _ w h2⟩
  · exact .inr (.inl ⟨v, fun w => d1 _ _ w h1, fun w => d2 _ _ w h2⟩)
  · exact .inr (.inr ⟨hn, fun w => d1 _ _ w h1, fun w => d2 _ _ w h2⟩)
theorem pairDo_0 (a : Int) (a0 : 0 ≤ a) (a1 : a < 18446744073709551616) : PairDo 170 64514 a := pairDo (fun v t w h => do_170 a 0 v t w h) (fun v t w h => do_64514 a 0 v t w h) (pair_170 _ (by omega))
theorem pairDo_1 (a : Int) (a0 : 0 ≤ a) (a1 : a < 18446744073709551616) : PairDo 171 64515 a := pairDo (fun v t w h => do_171 a 0 v t w h) (fun v t w h => do_64515 a 0 v t w h) (pair_171 _ (by omega))
theorem pairDo_2 (a : Int) (a0 : 0 ≤ a) (a1 : a < 18446744073709551616) : PairDo 176 64518 a := pairDo (fun v t w h => do_176 a 0 v t w h) (fun v t w h => do_64518 a 0 v t w h) (pair_176 _ (by omega))
theorem pairDo_3 (a : Int) (a0 : 0 ≤ a) (a1 : a < 18446744073709551616) : PairDo 177 64519 a := pairDo (fun v t w h => do_177 a 0 v t w h) (fun v t w h => do_64519 a 0 v t w h) (pair_177 _ (by omega))

end Go.Proofs.Ytdfjkollehhljaa
