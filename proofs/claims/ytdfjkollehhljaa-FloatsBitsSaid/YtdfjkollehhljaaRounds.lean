/- Plain facts: the four ways to whole numbers, and how they lie round a number. -/
import Derived.Test.YtdfjkollehhljaaSums
namespace Go.Proofs.Ytdfjkollehhljaa
open Ieee

/-- How two numbers compare: the op's own question, at words of 64 bits. -/
def cmpB (x y : Nat) (o : Ordering) : Bool := double.order x y == some o

/-- The word of a whole number. -/
def wd (s : Bool) (n : Nat) : Nat := double.nearest s n 0

theorem wd_word {n : Nat} (h : Fl.Whole n) (s : Bool) : ∃ m p, Fl.Canon m p ∧ wd s n = double.word s (Fl.rungOf m p) ∧ Fl.valN s m p = signed s n 1074 ∧ ∀ way, (Datum.number s m p).integral way = .number s n 0 := by
  obtain ⟨m, p, hc, h1, h2, h3⟩ := h
  exact ⟨m, p, hc, h1 s, h2 s, fun way => h3 way s⟩
theorem flr_wd {n : Nat} (h : Fl.Whole n) (s : Bool) (way : Toward) : flr way (wd s n) = wd s n := by
  obtain ⟨m, p, hc, h1, h2, h3⟩ := wd_word h s
  unfold flr
  rw [h1, Fl.read_word hc, h3, Format.write, ← h1]
  rfl
theorem wd_num (s : Bool) (n : Nat) : nanB (wd s n) = false := nearest_num s n 0
theorem wd_sign {n : Nat} (h : Fl.Whole n) (s : Bool) : wd s n / 9223372036854775808 = s.toNat := by
  obtain ⟨m, p, hc, h1, _, _⟩ := wd_word h s
  have := Fl.rung_lt hc
  rw [h1]
  exact Fl.word_div (by omega)
theorem wd_order {n m : Nat} {p : Int} (h : Fl.Whole n) (s t : Bool) (hc : Fl.Canon m p) : double.order (wd s n) (double.word t (Fl.rungOf m p)) = some (compare (signed s n 1074) (Fl.valN t m p)) := by
  obtain ⟨m', p', hc', h1, h2, _⟩ := wd_word h s
  rw [h1, Fl.order_word hc' hc, h2]
theorem cmp_le {a b : Int} (h : a ≤ b) : (some (compare a b) == some Ordering.lt || some (compare a b) == some Ordering.eq) = true := by
  rw [Int.compare_eq_ite_lt]
  split
  · rfl
  · rw [if_neg (by omega)]; rfl
theorem cmp_ge {a b : Int} (h : b ≤ a) : (some (compare a b) == some Ordering.gt || some (compare a b) == some Ordering.eq) = true := by
  rw [Int.compare_eq_ite_lt, if_neg (by omega)]
  split <;> rfl
theorem cmp_self {x : Nat} (h : nanB x = false) : cmpB x x .eq = true := by
  unfold nanB at h
  unfold cmpB
  simpa [FloatKind.format] using h
theorem signed_int (s : Bool) (n : Nat) : signed s n 1074 = if s then -((n : Int) * (2 ^ 1074 : Nat)) else (n : Int) * (2 ^ 1074 : Nat) := by
  unfold signed
  rw [Nat.shiftLeft_eq, Int.natCast_mul]
theorem val_true (m : Nat) (p : Int) : Fl.valN true m p = -Fl.valN false m p := by
  unfold Fl.valN signed; simp

/-- All that the law asks of a number. -/
structure Rounded (x U D C E : Nat) : Prop where
  nU : nanB U = false
  nD : nanB D = false
  nC : nanB C = false
  nE : nanB E = false
  le : (cmpB D x .lt || cmpB D x .eq) = true
  ge : (cmpB U x .gt || cmpB U x .eq) = true
  again : flr .up U = U
  back : flr .even E = E
  near : E = U ∨ E = D
  same : C = if cmpB x 0 .lt then U else D
  side : C / 9223372036854775808 = x / 9223372036854775808

theorem flr_inf (s : Bool) (way : Toward) : flr way (double.word s 9218868437227405312) = double.word s 9218868437227405312 := by
  unfold flr
  rw [Fl.read_inf]
  simp only [Datum.integral, Format.write, Fl.d_inf]
theorem rounded_inf (s : Bool) : Rounded (double.word s 9218868437227405312) (flr .up (double.word s 9218868437227405312)) (flr .down (double.word s 9218868437227405312)) (flr .zero (double.word s 9218868437227405312)) (flr .even (double.word s 9218868437227405312)) := by
  have hs := cmp_self (inf_num s)
  rw [flr_inf, flr_inf, flr_inf, flr_inf]
  exact ⟨inf_num s, inf_num s, inf_num s, inf_num s, by rw [hs, Bool.or_true], by rw [hs, Bool.or_true], flr_inf s _, flr_inf s _, .inl rfl, by split <;> rfl, rfl⟩
theorem read_zero : double.read 0 = .number false 0 (-1074) := by decide +kernel
theorem rounded_num (s : Bool) {m : Nat} {p : Int} (hc : Fl.Canon m p) : Rounded (double.word s (Fl.rungOf m p)) (flr .up (double.word s (Fl.rungOf m p))) (flr .down (double.word s (Fl.rungOf m p))) (flr .zero (double.word s (Fl.rungOf m p))) (flr .even (double.word s (Fl.rungOf m p))) := by
  obtain ⟨low, r, e, h1, h2, h3, h4, hw, hw1, v1, v2, v3, h0⟩ := Fl.integral_parts hc
  have eD : flr .down (double.word s (Fl.rungOf m p)) = wd s (low + (s && r).toNat) := by unfold flr; rw [Fl.read_word hc, h1]; rfl
  have eU : flr .up (double.word s (Fl.rungOf m p)) = wd s (low + (!s && r).toNat) := by unfold flr; rw [Fl.read_word hc, h2]; rfl
  have eC : flr .zero (double.word s (Fl.rungOf m p)) = wd s low := by unfold flr; rw [Fl.read_word hc, h3]; rfl
  have eE : flr .even (double.word s (Fl.rungOf m p)) = wd s (low + (r && e).toNat) := by unfold flr; rw [Fl.read_word hc, h4]; rfl
  have wh : ∀ b : Bool, (b = true → r = true) → Fl.Whole (low + b.toNat) := by
    intro b hb
    cases b with
    | false => exact hw
    | true => exact hw1 (hb rfl)
  have wD : Fl.Whole (low + (s && r).toNat) := wh _ (by cases s <;> cases r <;> simp)
  have wU : Fl.Whole (low + (!s && r).toNat) := wh _ (by cases s <;> cases r <;> simp)
  have wE : Fl.Whole (low + (r && e).toNat) := wh _ (by cases e <;> cases r <;> simp)
  have hx : double.word s (Fl.rungOf m p) / 9223372036854775808 = s.toNat := Fl.word_div (by have := Fl.rung_lt hc; omega)
  have lo0 : (0 : Int) ≤ (low : Int) * (2 ^ 1074 : Nat) := Int.mul_nonneg (Int.natCast_nonneg _) (Int.natCast_nonneg _)
  have hsg : cmpB (double.word s (Fl.rungOf m p)) 0 .lt = decide (Fl.valN s m p < 0) := by
    unfold cmpB Format.order
    rw [Fl.read_word hc, read_zero, Fl.order_num hc.2.1 (by omega)]
    have : Fl.valN false 0 (-1074) = 0 := by unfold Fl.valN signed; simp
    rw [this, Int.compare_eq_ite_lt]
    by_cases q : Fl.valN s m p < 0
    · rw [if_pos q]; simp [q]
    · rw [if_neg q]; split <;> simp [q]
  generalize hK : ((2 ^ 1074 : Nat) : Int) = K at *
  rw [eD, eU, eC, eE]
  refine ⟨wd_num _ _, wd_num _ _, wd_num _ _, wd_num _ _, ?_, ?_, flr_wd wU s _, flr_wd wE s _, ?_, ?_, ?_⟩
  · unfold cmpB
    rw [wd_order wD s s hc]
    refine cmp_le ?_
    rw [signed_int, hK]
    cases s with
    | false => simpa using v1
    | true =>
      rw [val_true]
      cases r with
      | false => have := v2 rfl; simp; omega
      | true => have := v3 rfl; simp at this ⊢; omega
  · unfold cmpB
    rw [wd_order wU s s hc]
    refine cmp_ge ?_
    rw [signed_int, hK]
    cases s with
    | true => rw [val_true]; simp; omega
    | false =>
      cases r with
      | false => have := v2 rfl; simp; omega
      | true => have := v3 rfl; simpa using this
  · cases s <;> cases r <;> cases e <;> simp
  · rw [hsg]
    cases s with
    | false =>
      have : ¬ Fl.valN false m p < 0 := by omega
      simp [this]
    | true =>
      rw [val_true]
      by_cases hm : m = 0
      · rw [h0 hm]
        simp
      · have : 0 < Fl.valN false m p := by
          unfold Fl.valN signed
          have : 0 < m <<< (p + 1074).toNat := by
            rw [Nat.shiftLeft_eq]
            exact Nat.mul_pos (by omega) (Nat.two_pow_pos _)
          exact Int.natCast_pos.2 this
        simp [this]
  · rw [hx]
    exact wd_sign hw s

end Go.Proofs.Ytdfjkollehhljaa
