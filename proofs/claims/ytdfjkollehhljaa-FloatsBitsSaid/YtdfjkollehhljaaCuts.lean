/- What cuts off to whole numbers, with traps and softly: plain facts on the words, and what the two come to. -/
import Derived.Test.YtdfjkollehhljaaDo2
import Derived.Test.YtdfjkollehhljaaRounds
namespace Go.Proofs.Ytdfjkollehhljaa
open Go.RowKit Ieee

theorem canon_pow (q : Nat) (h : q ≤ 1000) : Fl.Canon 4503599627370496 ((q : Int) - 52) := ⟨by decide, by omega, by omega, .inl (by decide)⟩
theorem pow_shl (a b c d : Nat) (h : a + b = c + d) : (2 ^ a) <<< b = (2 ^ c) <<< d := by
  rw [Nat.shiftLeft_eq, Nat.shiftLeft_eq, ← Nat.pow_add, ← Nat.pow_add, h]
theorem signed_pow (t : Bool) (a b c d : Nat) (h : a + b = c + d) : signed t (2 ^ a) b = signed t (2 ^ c) d := by
  unfold signed
  rw [pow_shl a b c d h]
theorem val_pow (t : Bool) (q : Nat) : Fl.valN t 4503599627370496 ((q : Int) - 52) = signed t (2 ^ q) 1074 := by
  unfold Fl.valN
  rw [show (4503599627370496 : Nat) = 2 ^ 52 from by decide]
  exact signed_pow t 52 _ q 1074 (by omega)
theorem cmp_signed (s t : Bool) (n m k : Nat) : compare (signed s n k) (signed t m k) = compare (signed s n 0) (signed t m 0) := by
  have a := Fl.signed_up s n 0 k
  have b := Fl.signed_up t m 0 k
  rw [Nat.zero_add] at a b
  rw [a, b, Fl.compare_mul]
theorem ord_pow {n : Nat} (h : Fl.Whole n) (s t : Bool) (q : Nat) (hq : q ≤ 1000) : double.order (wd s n) (double.word t (Fl.rungOf 4503599627370496 ((q : Int) - 52))) = some (compare (signed s n 0) (signed t (2 ^ q) 0)) := by
  rw [wd_order h s t (canon_pow q hq), val_pow, cmp_signed]
theorem ord_zero {n : Nat} (h : Fl.Whole n) (s : Bool) : double.order (wd s n) 0 = some (compare (signed s n 0) 0) := by
  have hc : Fl.Canon 0 (-1074) := Fl.canon_small (by decide)
  have e : (0 : Nat) = double.word false (Fl.rungOf 0 (-1074)) := by decide +kernel
  have := wd_order h s false hc
  rw [← e] at this
  have hv : Fl.valN false 0 (-1074) = signed false 0 1074 := by unfold Fl.valN signed; simp only [Nat.zero_shiftLeft]
  rw [this, hv, cmp_signed]
  rfl
theorem shift_eq {m n a b : Nat} (h : signed false m a = signed false n b) : (a ≤ b → m = n * 2 ^ (b - a)) ∧ (b ≤ a → n = m * 2 ^ (a - b)) := by
  have h' : m * 2 ^ a = n * 2 ^ b := by
    unfold signed at h
    simp only [Bool.false_eq_true, if_false, Nat.shiftLeft_eq] at h
    exact Int.ofNat_inj.1 h
  refine ⟨fun hab => ?_, fun hab => ?_⟩
  · obtain ⟨d, rfl⟩ : ∃ d, b = a + d := ⟨b - a, by omega⟩
    rw [Nat.pow_add, Nat.mul_comm (2 ^ a), ← Nat.mul_assoc] at h'
    rw [Nat.add_sub_cancel_left]
    exact Nat.eq_of_mul_eq_mul_right (Nat.two_pow_pos _) h'
  · obtain ⟨d, rfl⟩ : ∃ d, a = b + d := ⟨a - b, by omega⟩
    rw [Nat.pow_add, Nat.mul_comm (2 ^ b), ← Nat.mul_assoc] at h'
    rw [Nat.add_sub_cancel_left]
    exact (Nat.eq_of_mul_eq_mul_right (Nat.two_pow_pos _) h').symm
theorem geB_of {x y : Nat} {a b : Int} (h : double.order x y = some (compare a b)) : geB x y = decide (b ≤ a) := by
  have h' : FloatKind.f64.format.order x y = some (compare a b) := h
  unfold geB
  rw [h', Int.compare_eq_ite_lt]
  by_cases h1 : a < b
  · rw [if_pos h1]
    have : ¬ b ≤ a := by omega
    simp [this]
  · rw [if_neg h1]
    have : b ≤ a := by omega
    simp only [this, decide_true]
    split <;> rfl
theorem ltB_of {x y : Nat} {a b : Int} (h : double.order x y = some (compare a b)) : ltB x y = decide (a < b) := by
  have h' : FloatKind.f64.format.order x y = some (compare a b) := h
  unfold ltB
  rw [h', Int.compare_eq_ite_lt]
  by_cases h1 : a < b
  · rw [if_pos h1]; simp [h1]
  · rw [if_neg h1]
    simp only [h1, decide_false]
    split <;> rfl
theorem toInt_wd {n : Nat} (h : Fl.Whole n) (s : Bool) (h1 : -9223372036854775808 ≤ signed s n 0) (h2 : signed s n 0 ≤ 9223372036854775807) : floatToIntVal .f64 (wd s n) .i64 = some (signed s n 0) := by
  obtain ⟨m, p, hc, e1, _, e3⟩ := wd_word h s
  have e : (FloatKind.f64.decode (wd s n)).toInt .zero = some (signed s n 0) := by
    show ((double.read (wd s n)).toInt .zero) = _
    unfold Datum.toInt
    rw [e1, Fl.read_word hc, e3]
  unfold floatToIntVal
  rw [e]
  have a : IntKind.i64.min = -9223372036854775808 := by decide
  have b : IntKind.i64.max = 9223372036854775807 := by decide
  simp only [a, b]
  rw [if_pos ⟨h1, h2⟩]
theorem signed_0 (s : Bool) (n : Nat) : signed s n 0 = if s then -(n : Int) else n := by
  unfold signed
  rw [Nat.shiftLeft_zero]
/-- A great number less 2^63 can be told as an integer. -/
theorem sub_63 {n : Nat} (h : Fl.Whole n) (h1 : 9223372036854775808 ≤ n) (h2 : n < 18446744073709551616) : ∃ r k, double.sub (wd false n) 4890909195324358656 = some r ∧ floatToIntVal .f64 r .i64 = some k := by
  obtain ⟨m, p, hc, e1, e2, _⟩ := wd_word h false
  have hp : p = 11 ∧ 4503599627370496 ≤ m := by
    obtain ⟨c1, c2, c3, c4⟩ := hc
    obtain ⟨q1, q2⟩ := shift_eq (a := (p + 1074).toNat) (b := 1074) e2
    have hlo : 11 ≤ p := by
      apply Decidable.byContradiction
      intro hlt
      by_cases h0 : p ≤ 0
      · have := q1 (by omega)
        have := Nat.le_mul_of_pos_right n (Nat.two_pow_pos (1074 - (p + 1074).toNat))
        omega
      · have := q2 (by omega)
        have h2 : 2 ^ ((p + 1074).toNat - 1074) ≤ 2 ^ 10 := Nat.pow_le_pow_right (by decide) (by omega)
        have h3 := Nat.mul_le_mul_left m h2
        omega
    have hm : 4503599627370496 ≤ m := by rcases c4 with c | c <;> omega
    refine ⟨?_, hm⟩
    have hhi : p < 12 := by
      apply Decidable.byContradiction
      intro hge
      have := q2 (by omega)
      have h2 : 2 ^ 12 ≤ 2 ^ ((p + 1074).toNat - 1074) := Nat.pow_le_pow_right (by decide) (by omega)
      have h3 := Nat.mul_le_mul_left m h2
      omega
    omega
  obtain ⟨rfl, hm⟩ := hp
  have hm2 : m < 9007199254740992 := hc.1
  have rc : double.read 4890909195324358656 = .number false 4503599627370496 11 := by decide +kernel
  have hs : double.sub (wd false n) 4890909195324358656 = some (double.nearest false (m - 4503599627370496) 11) := by
    unfold Format.sub
    rw [e1, Fl.read_word hc, rc]
    simp only [Datum.opposite, Datum.sum, Option.map_some, Format.write]
    have b : ((11 : Int) - min 11 11).toNat = 0 := by decide
    have b2 : min (11 : Int) 11 = 11 := by decide
    rw [b, b2]
    have t : signed false m 0 + signed (!false) 4503599627370496 0 = ((m - 4503599627370496 : Nat) : Int) := by
      rw [signed_0, signed_0]; simp; omega
    rw [t]
    have t2 : (if ((m - 4503599627370496 : Nat) : Int) = 0 then (false && !false) else decide (((m - 4503599627370496 : Nat) : Int) < 0)) = false := by
      split
      · rfl
      · simp
    rw [t2, Int.natAbs_natCast]
  obtain ⟨j, hj⟩ : ∃ j, m - 4503599627370496 = j := ⟨_, rfl⟩
  rw [hj] at hs
  have hjb : j < 4503599627370496 := by omega
  have hw : Fl.Whole (j * 2048) ∧ double.nearest false j 11 = wd false (j * 2048) := by
    by_cases h0 : j = 0
    · subst h0
      exact ⟨Fl.whole_lt (by decide), by unfold wd Format.nearest; simp⟩
    · have hl : j.log2 ≤ 51 := by have := (Nat.log2_lt h0 (k := 52)).2 hjb; omega
      have hc2 : Fl.Canon (j <<< (52 - j.log2)) (11 - ((52 - j.log2 : Nat) : Int)) := by
        have hs := Fl.log2_shl j (52 - j.log2) h0
        have hs0 : j <<< (52 - j.log2) ≠ 0 := by
          rw [Nat.shiftLeft_eq]
          exact Nat.mul_ne_zero h0 (Nat.pos_iff_ne_zero.1 (Nat.two_pow_pos _))
        exact ⟨(Nat.log2_lt hs0).1 (by omega), by omega, by omega, .inl ((Nat.le_log2 hs0).1 (by omega))⟩
      have n1 := Fl.nearest_down false hc2
      rw [show (11 : Int) - ((52 - j.log2 : Nat) : Int) + ((52 - j.log2 : Nat) : Int) = 11 from by omega] at n1
      by_cases hk : 52 - j.log2 ≤ 11
      · have w1 := Fl.whole_shl hc2 (by omega)
        have e : (j <<< (52 - j.log2)) <<< (11 - ((52 - j.log2 : Nat) : Int)).toNat = j * 2048 := by
          rw [← Nat.shiftLeft_add, show 52 - j.log2 + (11 - ((52 - j.log2 : Nat) : Int)).toNat = 11 from by omega, Nat.shiftLeft_eq]
        rw [e] at w1
        refine ⟨w1, ?_⟩
        have n2 := Fl.nearest_up false hc2 (11 - ((52 - j.log2 : Nat) : Int)).toNat
        rw [e, show 11 - ((52 - j.log2 : Nat) : Int) - ((11 - ((52 - j.log2 : Nat) : Int)).toNat : Int) = 0 from by omega] at n2
        unfold wd
        rw [n1, n2]
      · have hlt : j * 2048 < 2 ^ 53 := by
          have := (Nat.log2_lt h0 (k := 41)).1 (by omega)
          omega
        have e : (j * 2048) <<< (52 - j.log2 - 11) = j <<< (52 - j.log2) := by
          rw [show j * 2048 = j <<< 11 from by rw [Nat.shiftLeft_eq], ← Nat.shiftLeft_add, show 11 + (52 - j.log2 - 11) = 52 - j.log2 from by omega]
        refine ⟨Fl.whole_lt hlt, ?_⟩
        have hc3 := hc2
        rw [← e] at hc3
        have n2 := Fl.nearest_down false hc3
        rw [e, show (11 : Int) - ((52 - j.log2 : Nat) : Int) + ((52 - j.log2 - 11 : Nat) : Int) = 0 from by omega] at n2
        unfold wd
        rw [n1, n2]
  refine ⟨_, signed false (j * 2048) 0, hs, ?_⟩
  rw [hw.2]
  exact toInt_wd hw.1 false (by rw [signed_0]; simp; omega) (by rw [signed_0]; simp; omega)

/-- What cuts off, with traps and softly, comes to. -/
def Pair (hard soft : Int) (x : Nat) : Prop :=
  (∃ v, (∀ w, Calls Try.prog 18 #[.int .i64 hard, .float .f64 x] w (CutEnd v 0 w)) ∧ (∀ w, Calls Try.prog 18 #[.int .i64 soft, .float .f64 x] w (CutEnd v 0 w))) ∨
  (∃ v, (∀ w, Calls Try.prog 18 #[.int .i64 hard, .float .f64 x] w (CutEnd 0 3 w)) ∧ (∀ w, Calls Try.prog 18 #[.int .i64 soft, .float .f64 x] w (CutEnd v 0 w))) ∨
  (nanB x = true ∧ (∀ w, Calls Try.prog 18 #[.int .i64 hard, .float .f64 x] w (CutEnd 0 4 w)) ∧ (∀ w, Calls Try.prog 18 #[.int .i64 soft, .float .f64 x] w (CutEnd 0 0 w)))

theorem trunc_cases (x : Nat) (hx : x < 18446744073709551616) : nanB x = true ∨ (nanB x = false ∧ ∃ s, flr .zero x = double.word s 9218868437227405312) ∨ (nanB x = false ∧ ∃ s n, Fl.Whole n ∧ flr .zero x = wd s n) := by
  rcases cases_of x hx with h | ⟨h, s, rfl⟩ | ⟨h, s, m, p, hc, rfl⟩
  · exact .inl h
  · exact .inr (.inl ⟨h, s, flr_inf s _⟩)
  · obtain ⟨low, r, e, h1, h2, h3, h4, hw, _⟩ := Fl.integral_parts hc
    refine .inr (.inr ⟨h, s, low, hw, ?_⟩)
    unfold flr
    rw [Fl.read_word hc, h3]
    rfl

theorem const_13970166044103278592 : 13970166044103278592 = double.word true (Fl.rungOf 4503599627370496 (((31 : Nat) : Int) - 52)) := by decide +kernel
theorem ord_13970166044103278592 {n : Nat} (h : Fl.Whole n) (s : Bool) : double.order (wd s n) 13970166044103278592 = some (compare (signed s n 0) (-2147483648)) := by
  rw [const_13970166044103278592, ord_pow h s true 31 (by decide)]
  rfl
theorem const_4746794007248502784 : 4746794007248502784 = double.word false (Fl.rungOf 4503599627370496 (((31 : Nat) : Int) - 52)) := by decide +kernel
theorem ord_4746794007248502784 {n : Nat} (h : Fl.Whole n) (s : Bool) : double.order (wd s n) 4746794007248502784 = some (compare (signed s n 0) (2147483648)) := by
  rw [const_4746794007248502784, ord_pow h s false 31 (by decide)]
  rfl
theorem const_4751297606875873280 : 4751297606875873280 = double.word false (Fl.rungOf 4503599627370496 (((32 : Nat) : Int) - 52)) := by decide +kernel
theorem ord_4751297606875873280 {n : Nat} (h : Fl.Whole n) (s : Bool) : double.order (wd s n) 4751297606875873280 = some (compare (signed s n 0) (4294967296)) := by
  rw [const_4751297606875873280, ord_pow h s false 32 (by decide)]
  rfl
theorem const_14114281232179134464 : 14114281232179134464 = double.word true (Fl.rungOf 4503599627370496 (((63 : Nat) : Int) - 52)) := by decide +kernel
theorem ord_14114281232179134464 {n : Nat} (h : Fl.Whole n) (s : Bool) : double.order (wd s n) 14114281232179134464 = some (compare (signed s n 0) (-9223372036854775808)) := by
  rw [const_14114281232179134464, ord_pow h s true 63 (by decide)]
  rfl
theorem const_4890909195324358656 : 4890909195324358656 = double.word false (Fl.rungOf 4503599627370496 (((63 : Nat) : Int) - 52)) := by decide +kernel
theorem ord_4890909195324358656 {n : Nat} (h : Fl.Whole n) (s : Bool) : double.order (wd s n) 4890909195324358656 = some (compare (signed s n 0) (9223372036854775808)) := by
  rw [const_4890909195324358656, ord_pow h s false 63 (by decide)]
  rfl
theorem const_4895412794951729152 : 4895412794951729152 = double.word false (Fl.rungOf 4503599627370496 (((64 : Nat) : Int) - 52)) := by decide +kernel
theorem ord_4895412794951729152 {n : Nat} (h : Fl.Whole n) (s : Bool) : double.order (wd s n) 4895412794951729152 = some (compare (signed s n 0) (18446744073709551616)) := by
  rw [const_4895412794951729152, ord_pow h s false 64 (by decide)]
  rfl
theorem geinf_true_13970166044103278592 : geB (double.word true 9218868437227405312) 13970166044103278592 = false := by decide +kernel
theorem ltinf_true_13970166044103278592 : ltB (double.word true 9218868437227405312) 13970166044103278592 = true := by decide +kernel
theorem geinf_true_4746794007248502784 : geB (double.word true 9218868437227405312) 4746794007248502784 = false := by decide +kernel
theorem ltinf_true_4746794007248502784 : ltB (double.word true 9218868437227405312) 4746794007248502784 = true := by decide +kernel
theorem geinf_true_4751297606875873280 : geB (double.word true 9218868437227405312) 4751297606875873280 = false := by decide +kernel
theorem ltinf_true_4751297606875873280 : ltB (double.word true 9218868437227405312) 4751297606875873280 = true := by decide +kernel
theorem geinf_true_14114281232179134464 : geB (double.word true 9218868437227405312) 14114281232179134464 = false := by decide +kernel
theorem ltinf_true_14114281232179134464 : ltB (double.word true 9218868437227405312) 14114281232179134464 = true := by decide +kernel
theorem geinf_true_4890909195324358656 : geB (double.word true 9218868437227405312) 4890909195324358656 = false := by decide +kernel
theorem ltinf_true_4890909195324358656 : ltB (double.word true 9218868437227405312) 4890909195324358656 = true := by decide +kernel
theorem geinf_true_4895412794951729152 : geB (double.word true 9218868437227405312) 4895412794951729152 = false := by decide +kernel
theorem ltinf_true_4895412794951729152 : ltB (double.word true 9218868437227405312) 4895412794951729152 = true := by decide +kernel
theorem geinf_true_0 : geB (double.word true 9218868437227405312) 0 = false := by decide +kernel
theorem ltinf_true_0 : ltB (double.word true 9218868437227405312) 0 = true := by decide +kernel
theorem geinf_false_13970166044103278592 : geB (double.word false 9218868437227405312) 13970166044103278592 = true := by decide +kernel
theorem ltinf_false_13970166044103278592 : ltB (double.word false 9218868437227405312) 13970166044103278592 = false := by decide +kernel
theorem geinf_false_4746794007248502784 : geB (double.word false 9218868437227405312) 4746794007248502784 = true := by decide +kernel
theorem ltinf_false_4746794007248502784 : ltB (double.word false 9218868437227405312) 4746794007248502784 = false := by decide +kernel
theorem geinf_false_4751297606875873280 : geB (double.word false 9218868437227405312) 4751297606875873280 = true := by decide +kernel
theorem ltinf_false_4751297606875873280 : ltB (double.word false 9218868437227405312) 4751297606875873280 = false := by decide +kernel
theorem geinf_false_14114281232179134464 : geB (double.word false 9218868437227405312) 14114281232179134464 = true := by decide +kernel
theorem ltinf_false_14114281232179134464 : ltB (double.word false 9218868437227405312) 14114281232179134464 = false := by decide +kernel
theorem geinf_false_4890909195324358656 : geB (double.word false 9218868437227405312) 4890909195324358656 = true := by decide +kernel
theorem ltinf_false_4890909195324358656 : ltB (double.word false 9218868437227405312) 4890909195324358656 = false := by decide +kernel
theorem geinf_false_4895412794951729152 : geB (double.word false 9218868437227405312) 4895412794951729152 = true := by decide +kernel
theorem ltinf_false_4895412794951729152 : ltB (double.word false 9218868437227405312) 4895412794951729152 = false := by decide +kernel
theorem geinf_false_0 : geB (double.word false 9218868437227405312) 0 = true := by decide +kernel
theorem ltinf_false_0 : ltB (double.word false 9218868437227405312) 0 = false := by decide +kernel
theorem pair_170 (x : Nat) (hx : x < 18446744073709551616) : Pair 170 64514 x := by
  rcases trunc_cases x hx with hn | ⟨hn, s, e⟩ | ⟨hn, s, n, hw, e⟩
  · exact .inr (.inr ⟨hn, fun w => cut_170_nan x w hn, fun w => cut_64514_nan x w hn⟩)
  · cases s with
    | false =>
      have a1 : geB (flr .zero x) 13970166044103278592 = true := by rw [e]; exact geinf_false_13970166044103278592
      have a2 : ltB (flr .zero x) 4746794007248502784 = false := by rw [e]; exact ltinf_false_4746794007248502784
      have a3 : geB (flr .zero x) 4746794007248502784 = true := by rw [e]; exact geinf_false_4746794007248502784
      exact .inr (.inl ⟨_, fun w => cut_170_hi x w hn a1 a2 a3, fun w => cut_64514_hi x w hn a1 a2 a3⟩)
    | true =>
      have a1 : geB (flr .zero x) 13970166044103278592 = false := by rw [e]; exact geinf_true_13970166044103278592
      have a2 : ltB (flr .zero x) 4746794007248502784 = true := by rw [e]; exact ltinf_true_4746794007248502784
      have a3 : geB (flr .zero x) 4746794007248502784 = false := by rw [e]; exact geinf_true_4746794007248502784
      exact .inr (.inl ⟨_, fun w => cut_170_lo x w hn a1 a2 a3, fun w => cut_64514_lo x w hn a1 a2 a3⟩)
  · have g1 := geB_of (ord_13970166044103278592 hw s)
    have g2 := ltB_of (ord_4746794007248502784 hw s)
    have g3 := geB_of (ord_4746794007248502784 hw s)
    rw [← e] at g1 g2 g3
    by_cases c1 : -2147483648 ≤ signed s n 0
    · by_cases c2 : signed s n 0 < 2147483648
      · simp only [c1, c2, decide_true] at g1 g2
        have hi : floatToIntVal .f64 (flr .zero x) .i64 = some (signed s n 0) := by rw [e]; exact toInt_wd hw s (by omega) (by omega)
        exact .inl ⟨_, fun w => cut_170_in x _ w hn g1 g2 hi, fun w => cut_64514_in x _ w hn g1 g2 hi⟩
      · have c3 : 2147483648 ≤ signed s n 0 := by omega
        simp only [c1, c2, c3, decide_true, decide_false] at g1 g2 g3
        exact .inr (.inl ⟨_, fun w => cut_170_hi x w hn g1 g2 g3, fun w => cut_64514_hi x w hn g1 g2 g3⟩)
    · have c2 : signed s n 0 < 2147483648 := by omega
      have c3 : ¬ (2147483648 ≤ signed s n 0) := by omega
      simp only [c1, c2, c3, decide_true, decide_false] at g1 g2 g3
      exact .inr (.inl ⟨_, fun w => cut_170_lo x w hn g1 g2 g3, fun w => cut_64514_lo x w hn g1 g2 g3⟩)
theorem pair_171 (x : Nat) (hx : x < 18446744073709551616) : Pair 171 64515 x := by
  rcases trunc_cases x hx with hn | ⟨hn, s, e⟩ | ⟨hn, s, n, hw, e⟩
  · exact .inr (.inr ⟨hn, fun w => cut_171_nan x w hn, fun w => cut_64515_nan x w hn⟩)
  · cases s with
    | false =>
      have a1 : geB (flr .zero x) 0 = true := by rw [e]; exact geinf_false_0
      have a2 : ltB (flr .zero x) 4751297606875873280 = false := by rw [e]; exact ltinf_false_4751297606875873280
      have a3 : geB (flr .zero x) 4751297606875873280 = true := by rw [e]; exact geinf_false_4751297606875873280
      exact .inr (.inl ⟨_, fun w => cut_171_hi x w hn a1 a2 a3, fun w => cut_64515_hi x w hn a1 a2 a3⟩)
    | true =>
      have a1 : geB (flr .zero x) 0 = false := by rw [e]; exact geinf_true_0
      have a2 : ltB (flr .zero x) 4751297606875873280 = true := by rw [e]; exact ltinf_true_4751297606875873280
      have a3 : geB (flr .zero x) 4751297606875873280 = false := by rw [e]; exact geinf_true_4751297606875873280
      exact .inr (.inl ⟨_, fun w => cut_171_lo x w hn a1 a2 a3, fun w => cut_64515_lo x w hn a1 a2 a3⟩)
  · have g1 := geB_of (ord_zero hw s)
    have g2 := ltB_of (ord_4751297606875873280 hw s)
    have g3 := geB_of (ord_4751297606875873280 hw s)
    rw [← e] at g1 g2 g3
    by_cases c1 : 0 ≤ signed s n 0
    · by_cases c2 : signed s n 0 < 4294967296
      · simp only [c1, c2, decide_true] at g1 g2
        have hg := geB_of (ord_4890909195324358656 hw s)
        rw [← e] at hg
        have c3 : ¬ (9223372036854775808 ≤ signed s n 0) := by omega
        simp only [c3, decide_false] at hg
        have hi : floatToIntVal .f64 (flr .zero x) .i64 = some (signed s n 0) := by rw [e]; exact toInt_wd hw s (by omega) (by omega)
        exact .inl ⟨_, fun w => cut_171_in x _ w hn g1 g2 hi hg, fun w => cut_64515_in x _ w hn g1 g2 hi hg⟩
      · have c3 : 4294967296 ≤ signed s n 0 := by omega
        simp only [c1, c2, c3, decide_true, decide_false] at g1 g2 g3
        exact .inr (.inl ⟨_, fun w => cut_171_hi x w hn g1 g2 g3, fun w => cut_64515_hi x w hn g1 g2 g3⟩)
    · have c2 : signed s n 0 < 4294967296 := by omega
      have c3 : ¬ (4294967296 ≤ signed s n 0) := by omega
      simp only [c1, c2, c3, decide_true, decide_false] at g1 g2 g3
      exact .inr (.inl ⟨_, fun w => cut_171_lo x w hn g1 g2 g3, fun w => cut_64515_lo x w hn g1 g2 g3⟩)
theorem pair_176 (x : Nat) (hx : x < 18446744073709551616) : Pair 176 64518 x := by
  rcases trunc_cases x hx with hn | ⟨hn, s, e⟩ | ⟨hn, s, n, hw, e⟩
  · exact .inr (.inr ⟨hn, fun w => cut_176_nan x w hn, fun w => cut_64518_nan x w hn⟩)
  · cases s with
    | false =>
      have a1 : geB (flr .zero x) 14114281232179134464 = true := by rw [e]; exact geinf_false_14114281232179134464
      have a2 : ltB (flr .zero x) 4890909195324358656 = false := by rw [e]; exact ltinf_false_4890909195324358656
      have a3 : geB (flr .zero x) 4890909195324358656 = true := by rw [e]; exact geinf_false_4890909195324358656
      exact .inr (.inl ⟨_, fun w => cut_176_hi x w hn a1 a2 a3, fun w => cut_64518_hi x w hn a1 a2 a3⟩)
    | true =>
      have a1 : geB (flr .zero x) 14114281232179134464 = false := by rw [e]; exact geinf_true_14114281232179134464
      have a2 : ltB (flr .zero x) 4890909195324358656 = true := by rw [e]; exact ltinf_true_4890909195324358656
      have a3 : geB (flr .zero x) 4890909195324358656 = false := by rw [e]; exact geinf_true_4890909195324358656
      exact .inr (.inl ⟨_, fun w => cut_176_lo x w hn a1 a2 a3, fun w => cut_64518_lo x w hn a1 a2 a3⟩)
  · have g1 := geB_of (ord_14114281232179134464 hw s)
    have g2 := ltB_of (ord_4890909195324358656 hw s)
    have g3 := geB_of (ord_4890909195324358656 hw s)
    rw [← e] at g1 g2 g3
    by_cases c1 : -9223372036854775808 ≤ signed s n 0
    · by_cases c2 : signed s n 0 < 9223372036854775808
      · simp only [c1, c2, decide_true] at g1 g2
        have hi : floatToIntVal .f64 (flr .zero x) .i64 = some (signed s n 0) := by rw [e]; exact toInt_wd hw s (by omega) (by omega)
        exact .inl ⟨_, fun w => cut_176_in x _ w hn g1 g2 hi, fun w => cut_64518_in x _ w hn g1 g2 hi⟩
      · have c3 : 9223372036854775808 ≤ signed s n 0 := by omega
        simp only [c1, c2, c3, decide_true, decide_false] at g1 g2 g3
        exact .inr (.inl ⟨_, fun w => cut_176_hi x w hn g1 g2 g3, fun w => cut_64518_hi x w hn g1 g2 g3⟩)
    · have c2 : signed s n 0 < 9223372036854775808 := by omega
      have c3 : ¬ (9223372036854775808 ≤ signed s n 0) := by omega
      simp only [c1, c2, c3, decide_true, decide_false] at g1 g2 g3
      exact .inr (.inl ⟨_, fun w => cut_176_lo x w hn g1 g2 g3, fun w => cut_64518_lo x w hn g1 g2 g3⟩)
theorem pair_177 (x : Nat) (hx : x < 18446744073709551616) : Pair 177 64519 x := by
  rcases trunc_cases x hx with hn | ⟨hn, s, e⟩ | ⟨hn, s, n, hw, e⟩
  · exact .inr (.inr ⟨hn, fun w => cut_177_nan x w hn, fun w => cut_64519_nan x w hn⟩)
  · cases s with
    | false =>
      have a1 : geB (flr .zero x) 0 = true := by rw [e]; exact geinf_false_0
      have a2 : ltB (flr .zero x) 4895412794951729152 = false := by rw [e]; exact ltinf_false_4895412794951729152
      have a3 : geB (flr .zero x) 4895412794951729152 = true := by rw [e]; exact geinf_false_4895412794951729152
      exact .inr (.inl ⟨_, fun w => cut_177_hi x w hn a1 a2 a3, fun w => cut_64519_hi x w hn a1 a2 a3⟩)
    | true =>
      have a1 : geB (flr .zero x) 0 = false := by rw [e]; exact geinf_true_0
      have a2 : ltB (flr .zero x) 4895412794951729152 = true := by rw [e]; exact ltinf_true_4895412794951729152
      have a3 : geB (flr .zero x) 4895412794951729152 = false := by rw [e]; exact geinf_true_4895412794951729152
      exact .inr (.inl ⟨_, fun w => cut_177_lo x w hn a1 a2 a3, fun w => cut_64519_lo x w hn a1 a2 a3⟩)
  · have g1 := geB_of (ord_zero hw s)
    have g2 := ltB_of (ord_4895412794951729152 hw s)
    have g3 := geB_of (ord_4895412794951729152 hw s)
    rw [← e] at g1 g2 g3
    by_cases c1 : 0 ≤ signed s n 0
    · by_cases c2 : signed s n 0 < 18446744073709551616
      · simp only [c1, c2, decide_true] at g1 g2
        have hg := geB_of (ord_4890909195324358656 hw s)
        rw [← e] at hg
        by_cases c3 : 9223372036854775808 ≤ signed s n 0
        · simp only [c3, decide_true] at hg
          rw [signed_0] at c2 c3
          cases s with
          | true => simp at c3; omega
          | false =>
            simp only [Bool.false_eq_true, if_false] at c2 c3
            obtain ⟨r, k, hs, hi⟩ := sub_63 hw (by omega) (by omega)
            rw [← e] at hs
            exact .inl ⟨_, fun w => cut_177_inb x _ w hn g1 g2 r hs hi hg, fun w => cut_64519_inb x _ w hn g1 g2 r hs hi hg⟩
        · simp only [c3, decide_false] at hg
          have hi : floatToIntVal .f64 (flr .zero x) .i64 = some (signed s n 0) := by rw [e]; exact toInt_wd hw s (by omega) (by omega)
          exact .inl ⟨_, fun w => cut_177_in x _ w hn g1 g2 hi hg, fun w => cut_64519_in x _ w hn g1 g2 hi hg⟩
      · have c3 : 18446744073709551616 ≤ signed s n 0 := by omega
        simp only [c1, c2, c3, decide_true, decide_false] at g1 g2 g3
        exact .inr (.inl ⟨_, fun w => cut_177_hi x w hn g1 g2 g3, fun w => cut_64519_hi x w hn g1 g2 g3⟩)
    · have c2 : signed s n 0 < 18446744073709551616 := by omega
      have c3 : ¬ (18446744073709551616 ≤ signed s n 0) := by omega
      simp only [c1, c2, c3, decide_true, decide_false] at g1 g2 g3
      exact .inr (.inl ⟨_, fun w => cut_177_lo x w hn g1 g2 g3, fun w => cut_64519_lo x w hn g1 g2 g3⟩)

end Go.Proofs.Ytdfjkollehhljaa
