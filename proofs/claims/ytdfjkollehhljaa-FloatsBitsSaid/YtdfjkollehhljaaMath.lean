/- Plain facts on numbers with a point, as words of 64 bits: no program in sight. -/
import Ieee.Arith
namespace Go.Proofs.Ytdfjkollehhljaa
namespace Fl
open Ieee

theorem d_sw : double.signWeight = 9223372036854775808 := by rfl
theorem d_bin : double.binade = 4503599627370496 := by rfl
theorem d_inf : double.infRung = 9218868437227405312 := by rfl
theorem d_least : double.leastPlace = -1074 := by rfl
theorem d_frac : double.fractionBits = 52 := by rfl

/-- What cuts nothing off. -/
theorem cut_zero (way : Toward) (neg : Bool) (n : Nat) : way.cut neg n 0 = n := by
  unfold Toward.cut
  cases way <;> simp [Nat.mod_one]

theorem log2_shl (n k : Nat) (h : n ≠ 0) : (n <<< k).log2 = n.log2 + k := by
  induction k with
  | zero => rw [Nat.shiftLeft_zero]; omega
  | succ k ih =>
    have h0 : n <<< k ≠ 0 := by
      rw [Nat.shiftLeft_eq]
      exact Nat.mul_ne_zero h (Nat.pos_iff_ne_zero.1 (Nat.two_pow_pos _))
    rw [Nat.shiftLeft_succ, Nat.log2_two_mul h0, ih]
    omega

/-- A number that ends in zeros is cut off exactly. -/
theorem cut_shl (way : Toward) (neg : Bool) (n k : Nat) : way.cut neg (n <<< k) k = n := by
  by_cases hn : n = 0
  · subst hn
    unfold Toward.cut
    cases way <;> simp [Nat.shiftLeft_eq]
    all_goals omega
  · have hl := log2_shl n k hn
    have hm : min k ((n <<< k).log2 + 2) = k := by omega
    have hp : 0 < 2 ^ k := Nat.two_pow_pos _
    unfold Toward.cut
    rw [hm]
    simp only [Nat.shiftLeft_eq, Nat.one_mul, Nat.mul_mod_left, Nat.mul_div_cancel _ hp]
    cases way <;> simp <;> omega

/-- The form in which every word stands for a number. -/
def Canon (m : Nat) (p : Int) : Prop := m < 2 ^ 53 ∧ -1074 ≤ p ∧ p ≤ 971 ∧ (2 ^ 52 ≤ m ∨ p = -1074)

theorem log2_53 {m : Nat} (h : 2 ^ 52 ≤ m) (h2 : m < 2 ^ 53) : m.log2 = 52 := by
  have h0 : m ≠ 0 := by omega
  have a := (Nat.le_log2 h0 (k := 52)).2 h
  have b := (Nat.log2_lt h0 (k := 53)).2 h2
  omega

theorem last_of {m : Nat} {p : Int} (hc : Canon m p) (h0 : m ≠ 0) : max (p + m.log2 - 52) (-1074) = p := by
  obtain ⟨h1, h2, h3, h4⟩ := hc
  have b := (Nat.log2_lt h0 (k := 53)).2 h1
  rcases h4 with h4 | h4
  · have := log2_53 h4 h1
    omega
  · omega

/-- The rung of a number in that form. -/
def rungOf (m : Nat) (p : Int) : Nat := (p + 1074).toNat * 4503599627370496 + m

theorem rung_lt {m : Nat} {p : Int} (hc : Canon m p) : rungOf m p < 9218868437227405312 := by
  obtain ⟨h1, h2, h3, h4⟩ := hc
  unfold rungOf
  omega

theorem nearest_up (neg : Bool) {m : Nat} {p : Int} (hc : Canon m p) (k : Nat) : double.nearest neg (m <<< k) (p - k) = double.word neg (rungOf m p) := by
  by_cases h0 : m = 0
  · subst h0
    have hp : p = -1074 := by obtain ⟨_, _, _, h | h⟩ := hc <;> omega
    subst hp
    simp [Format.nearest, rungOf]
  · have hl := last_of hc h0
    have hr := rung_lt hc
    have hs : m <<< k ≠ 0 := by
      rw [Nat.shiftLeft_eq]
      exact Nat.mul_ne_zero h0 (Nat.pos_iff_ne_zero.1 (Nat.two_pow_pos _))
    unfold Format.nearest
    rw [if_neg hs, d_frac, d_least, d_bin, d_inf, log2_shl _ _ h0]
    have e1 : p - (k : Int) + ((m.log2 + k : Nat) : Int) - ((52 : Nat) : Int) = p + m.log2 - 52 := by omega
    rw [e1, hl]
    have e2 : (p - (k : Int) - p).toNat = 0 := by omega
    have e3 : (p - (p - (k : Int))).toNat = k := by omega
    simp only [e2, e3, Nat.shiftLeft_zero, cut_shl]
    have e4 : (p - -1074).toNat = (p + 1074).toNat := by omega
    rw [e4]
    unfold rungOf at hr ⊢
    rw [Nat.min_eq_left (by omega)]

theorem nearest_down (neg : Bool) {n k : Nat} {p : Int} (hc : Canon (n <<< k) p) : double.nearest neg n (p + k) = double.word neg (rungOf (n <<< k) p) := by
  by_cases h0 : n = 0
  · subst h0
    have hp : p = -1074 := by obtain ⟨_, _, _, h | h⟩ := hc <;> simp_all
    subst hp
    simp [Format.nearest, rungOf]
  · have hs : n <<< k ≠ 0 := by
      rw [Nat.shiftLeft_eq]
      exact Nat.mul_ne_zero h0 (Nat.pos_iff_ne_zero.1 (Nat.two_pow_pos _))
    have hl := last_of hc hs
    have hr := rung_lt hc
    rw [log2_shl _ _ h0] at hl
    unfold Format.nearest
    rw [if_neg h0, d_frac, d_least, d_bin, d_inf]
    have e1 : p + (k : Int) + (n.log2 : Int) - ((52 : Nat) : Int) = p + ((n.log2 + k : Nat) : Int) - 52 := by omega
    rw [e1, hl]
    have e2 : (p + (k : Int) - p).toNat = k := by omega
    have e3 : (p - (p + (k : Int))).toNat = 0 := by omega
    simp only [e2, e3, cut_zero]
    have e4 : (p - -1074).toNat = (p + 1074).toNat := by omega
    rw [e4]
    unfold rungOf at hr ⊢
    rw [Nat.min_eq_left (by omega)]

/-- The word of a sign and a rung. -/
theorem word_def (neg : Bool) (r : Nat) : double.word neg r = if neg then 9223372036854775808 + r else r := by
  unfold Format.word
  rw [d_sw]

theorem word_lt {neg : Bool} {r : Nat} (h : r < 9223372036854775808) : double.word neg r < 18446744073709551616 := by
  rw [word_def]; split <;> omega

theorem word_mod {neg : Bool} {r : Nat} (h : r < 9223372036854775808) : double.word neg r % 9223372036854775808 = r := by
  rw [word_def]; split <;> omega

theorem word_div {neg : Bool} {r : Nat} (h : r < 9223372036854775808) : double.word neg r / 9223372036854775808 = neg.toNat := by
  rw [word_def]; cases neg <;> simp <;> omega

/-- What a word below NaNs and infinities reads as. -/
theorem read_word {neg : Bool} {m : Nat} {p : Int} (hc : Canon m p) : double.read (double.word neg (rungOf m p)) = .number neg m p := by
  have hr := rung_lt hc
  obtain ⟨h1, h2, h3, h4⟩ := hc
  have hd : double.word neg (rungOf m p) / 9223372036854775808 = neg.toNat := word_div (by omega)
  have hm : double.word neg (rungOf m p) % 9223372036854775808 = rungOf m p := word_mod (by omega)
  unfold Format.read
  simp only [d_sw, d_bin, d_inf, d_least, hd, hm]
  have hn : (neg.toNat % 2 == 1) = neg := by cases neg <;> rfl
  rw [hn]
  rcases Nat.lt_or_ge m (2 ^ 52) with hm | hm
  · have hp : p = -1074 := by rcases h4 with h | h <;> omega
    subst hp
    have : rungOf m (-1074) = m := by unfold rungOf; omega
    rw [this, if_pos (by omega)]
  · have hge : 4503599627370496 ≤ rungOf m p := by unfold rungOf; omega
    rw [if_neg (by omega), if_pos (by omega)]
    have a : rungOf m p % 4503599627370496 = m - 4503599627370496 := by
      unfold rungOf
      rw [Nat.mul_comm, Nat.mul_add_mod]
      omega
    have b : rungOf m p / 4503599627370496 = (p + 1074).toNat + 1 := by
      unfold rungOf
      omega
    rw [a, b]
    have e1 : 4503599627370496 + (m - 4503599627370496) = m := by omega
    have e2 : (-1074 : Int) + (((p + 1074).toNat + 1 - 1 : Nat) : Int) = p := by omega
    rw [e1, e2]

theorem canon_small {r : Nat} (h : r < 4503599627370496) : Canon r (-1074) := by
  unfold Canon
  omega

/-- Each word is a NaN, an infinity, or a number in that form. -/
theorem word_cases (x : Nat) (hx : x < 18446744073709551616) :
    (9218868437227405312 < x % 9223372036854775808) ∨
    (∃ neg, x = double.word neg 9218868437227405312) ∨
    (∃ neg m p, Canon m p ∧ x = double.word neg (rungOf m p)) := by
  have hd : x / 9223372036854775808 = 0 ∨ x / 9223372036854775808 = 1 := by omega
  obtain ⟨neg, hneg⟩ : ∃ neg : Bool, x = double.word neg (x % 9223372036854775808) := by
    rcases hd with h | h
    · exact ⟨false, by rw [word_def]; simp; omega⟩
    · exact ⟨true, by rw [word_def]; simp; omega⟩
  rcases Nat.lt_trichotomy (x % 9223372036854775808) 9218868437227405312 with h | h | h
  · refine .inr (.inr ⟨neg, ?_⟩)
    generalize x % 9223372036854775808 = r at *
    by_cases hb : r < 4503599627370496
    · exact ⟨r, -1074, canon_small hb, hneg.trans (congrArg (double.word neg) (by unfold rungOf; omega))⟩
    · refine ⟨4503599627370496 + r % 4503599627370496, -1074 + (r / 4503599627370496 - 1 : Nat), ⟨by omega, by omega, by omega, .inl (by omega)⟩, ?_⟩
      exact hneg.trans (congrArg (double.word neg) (by unfold rungOf; omega))
  · exact .inr (.inl ⟨neg, by rw [← h]; exact hneg⟩)
  · exact .inl h

theorem read_inf (neg : Bool) : double.read (double.word neg 9218868437227405312) = .infinity neg := by
  have hd : double.word neg 9218868437227405312 / 9223372036854775808 = neg.toNat := word_div (by omega)
  have hm : double.word neg 9218868437227405312 % 9223372036854775808 = 9218868437227405312 := word_mod (by omega)
  unfold Format.read
  simp only [d_sw, d_bin, d_inf, d_least, hd, hm]
  have hn : (neg.toNat % 2 == 1) = neg := by cases neg <;> rfl
  rw [hn, if_neg (by omega), if_neg (by omega), if_pos trivial]

theorem read_nan {x : Nat} (h : 9218868437227405312 < x % 9223372036854775808) : ∃ s t, double.read x = .nan s t := by
  unfold Format.read
  simp only [d_sw, d_bin, d_inf]
  rw [if_neg (by omega), if_neg (by omega), if_neg (by omega)]
  exact ⟨_, _, rfl⟩

end Fl
end Go.Proofs.Ytdfjkollehhljaa
