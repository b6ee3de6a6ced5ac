/- Plain facts: sums and products the other way round; a number less itself, by itself, times 1. -/
import Derived.Test.YtdfjkollehhljaaLeaf
namespace Go.Proofs.Ytdfjkollehhljaa
open Ieee

theorem nearest_num (s : Bool) (m : Nat) (p : Int) : nanB (double.nearest s m p) = false := by
  have key : ∀ r, r ≤ 9218868437227405312 → nanB (double.word s r) = false := by
    intro r hr
    rw [nanB_read]
    have hd : double.word s r / 9223372036854775808 = s.toNat := Fl.word_div (by omega)
    have hm : double.word s r % 9223372036854775808 = r := Fl.word_mod (by omega)
    unfold Format.read
    simp only [Fl.d_sw, Fl.d_bin, Fl.d_inf, Fl.d_least, hd, hm]
    by_cases h1 : r < 4503599627370496
    · rw [if_pos h1]
    · rw [if_neg h1]
      by_cases h2 : r < 9218868437227405312
      · rw [if_pos h2]
      · rw [if_neg h2, if_pos (by omega)]
  unfold Format.nearest
  split
  · exact key 0 (by omega)
  · rw [Fl.d_inf]
    exact key _ (Nat.min_le_right ..)
theorem inf_num (s : Bool) : nanB (double.word s 9218868437227405312) = false := by
  rw [nanB_read, Fl.read_inf]
theorem write_num {d : Datum} (h : d.isNaN = false) : nanB (double.write d) = false := by
  cases d with
  | number s m p => exact nearest_num s m p
  | infinity s => exact inf_num s
  | nan s t => cases h

theorem some_num {o : Option Datum} {r : Nat} (ho : ∀ d, o = some d → d.isNaN = false) (h : o.map double.write = some r) : nanB r = false := by
  cases o with
  | none => cases h
  | some d => injection h with h; subst h; exact write_num (ho d rfl)

theorem sum_not (x y : Datum) : ∀ d, x.sum y = some d → d.isNaN = false := by
  intro d h
  cases x <;> cases y <;> simp only [Datum.sum] at h
  all_goals first | (cases h; done) | skip
  all_goals first | (split at h <;> first | (cases h; done) | (injection h with h; subst h; rfl)) | (injection h with h; subst h; rfl)
theorem product_not (x y : Datum) : ∀ d, x.product y = some d → d.isNaN = false := by
  intro d h
  cases x <;> cases y <;> simp only [Datum.product] at h
  all_goals first | (cases h; done) | skip
  all_goals first | (split at h <;> first | (cases h; done) | (injection h with h; subst h; rfl)) | (injection h with h; subst h; rfl)
theorem quotient_not (k : Nat) (x y : Datum) : ∀ d, x.quotient k y = some d → d.isNaN = false := by
  intro d h
  cases x <;> cases y <;> simp only [Datum.quotient] at h
  all_goals first | (cases h; done) | skip
  all_goals first | (injection h with h; subst h; rfl) | skip
  split at h
  · split at h <;> first | (cases h; done) | (injection h with h; subst h; rfl)
  · injection h with h; subst h; rfl
theorem add_num {x y r : Nat} (h : double.add x y = some r) : nanB r = false := some_num (sum_not _ _) h
theorem sub_num {x y r : Nat} (h : double.sub x y = some r) : nanB r = false := some_num (sum_not _ _) h
theorem mul_num {x y r : Nat} (h : double.mul x y = some r) : nanB r = false := some_num (product_not _ _) h
theorem div_num {x y r : Nat} (h : double.div x y = some r) : nanB r = false := some_num (quotient_not _ _ _) h

theorem sum_comm (x y : Datum) : x.sum y = y.sum x := by
  cases x with
  | nan s t => cases y <;> rfl
  | infinity s =>
    cases y with
    | nan t u => rfl
    | number t n j => rfl
    | infinity t => cases s <;> cases t <;> rfl
  | number s m i =>
    cases y with
    | nan t u => rfl
    | infinity t => rfl
    | number t n j =>
      simp only [Datum.sum]
      rw [Int.min_comm j i, Int.add_comm, Bool.and_comm]
theorem add_comm (x y : Nat) : double.add x y = double.add y x := by
  unfold Format.add
  rw [sum_comm]
theorem product_comm (x y : Datum) : x.product y = y.product x := by
  cases x with
  | nan s t => cases y <;> rfl
  | infinity s =>
    cases y with
    | nan t u => rfl
    | number t n j => simp only [Datum.product]
    | infinity t => cases s <;> cases t <;> rfl
  | number s m i =>
    cases y with
    | nan t u => rfl
    | infinity t => simp only [Datum.product]
    | number t n j =>
      simp only [Datum.product]
      rw [Nat.mul_comm, Int.add_comm, Bool.xor_comm]
theorem mul_comm (x y : Nat) : double.mul x y = double.mul y x := by
  unfold Format.mul
  rw [product_comm]

theorem sub_self {s : Bool} {m : Nat} {p : Int} (h : Fl.Canon m p) : double.sub (double.word s (Fl.rungOf m p)) (double.word s (Fl.rungOf m p)) = some 0 := by
  unfold Format.sub
  rw [Fl.read_word h]
  simp only [Datum.opposite, Datum.sum]
  have e : signed s m (p - min p p).toNat + signed (!s) m (p - min p p).toNat = 0 := by
    unfold signed
    cases s <;> simp <;> omega
  rw [e]
  have : (s && !s) = false := by cases s <;> rfl
  simp only [if_true, this, Option.map_some]
  rfl
theorem read_one : double.read 4607182418800017408 = .number false 4503599627370496 (-52) := by decide +kernel
theorem mul_one {s : Bool} {m : Nat} {p : Int} (h : Fl.Canon m p) : double.mul (double.word s (Fl.rungOf m p)) 4607182418800017408 = some (double.word s (Fl.rungOf m p)) := by
  unfold Format.mul
  rw [Fl.read_word h, read_one]
  simp only [Datum.product, Bool.xor_false, Option.map_some, Format.write]
  have := Fl.nearest_up s h 52
  rw [Nat.shiftLeft_eq, show (2 ^ 52 : Nat) = 4503599627370496 from by decide] at this
  have e : p + -52 = p - ((52 : Nat) : Int) := by omega
  rw [e, this]
theorem div_self {s : Bool} {m : Nat} {p : Int} (h : Fl.Canon m p) (h0 : m ≠ 0) : double.div (double.word s (Fl.rungOf m p)) (double.word s (Fl.rungOf m p)) = some 4607182418800017408 := by
  unfold Format.div
  rw [Fl.read_word h]
  simp only [Datum.quotient]
  rw [if_neg h0]
  have e1 : double.fractionBits + 2 + m.log2 - m.log2 = 54 := by rw [Fl.d_frac]; omega
  have e2 : m <<< 54 / m = 2 ^ 54 := by rw [Nat.shiftLeft_eq, Nat.mul_div_cancel_left _ (by omega)]
  have e3 : m <<< 54 % m = 0 := by rw [Nat.shiftLeft_eq, Nat.mul_mod_right]
  have e4 : p - p - ((54 : Nat) : Int) - 1 = -55 := by omega
  have e5 : (s ^^ s) = false := by cases s <;> rfl
  simp only [e1, e2, e3, e4, e5, Option.map_some, Format.write]
  decide +kernel
theorem div_zero {s : Bool} : double.div (double.word s 0) (double.word s 0) = none := by
  cases s <;> decide +kernel
theorem add_inf {s : Bool} : double.sub (double.word s 9218868437227405312) (double.word s 9218868437227405312) = none := by
  cases s <;> decide +kernel
theorem div_inf {s : Bool} : double.div (double.word s 9218868437227405312) (double.word s 9218868437227405312) = none := by
  cases s <;> decide +kernel
theorem mul_inf {s : Bool} : double.mul (double.word s 9218868437227405312) 4607182418800017408 = some (double.word s 9218868437227405312) := by
  cases s <;> decide +kernel

theorem read_isNaN {x : Nat} (h : nanB x = true) : ∃ s t, double.read x = .nan s t := by
  rw [nanB_read] at h
  cases hd : double.read x with
  | nan s t => exact ⟨s, t, rfl⟩
  | infinity s => rw [hd] at h; cases h
  | number s m p => rw [hd] at h; cases h
theorem sub_nan {x y : Nat} (h : nanB x = true) : double.sub x y = none := by
  obtain ⟨s, t, e⟩ := read_isNaN h
  unfold Format.sub; rw [e]; rfl
theorem mul_nan {x y : Nat} (h : nanB x = true) : double.mul x y = none := by
  obtain ⟨s, t, e⟩ := read_isNaN h
  unfold Format.mul; rw [e]; rfl
theorem div_nan {x y : Nat} (h : nanB x = true) : double.div x y = none := by
  obtain ⟨s, t, e⟩ := read_isNaN h
  unfold Format.div; rw [e]; rfl

/-- Each word is a NaN, an infinity, or a number in its form. -/
theorem cases_of (x : Nat) (hx : x < 18446744073709551616) : nanB x = true ∨ (nanB x = false ∧ ∃ s, x = double.word s 9218868437227405312) ∨ (nanB x = false ∧ ∃ s m p, Fl.Canon m p ∧ x = double.word s (Fl.rungOf m p)) := by
  rcases Fl.word_cases x hx with h | ⟨s, rfl⟩ | ⟨s, m, p, h, rfl⟩
  · exact .inl (nanB_nan h)
  · exact .inr (.inl ⟨inf_num s, s, rfl⟩)
  · refine .inr (.inr ⟨?_, s, m, p, h, rfl⟩)
    rw [nanB_read, Fl.read_word h]

end Go.Proofs.Ytdfjkollehhljaa
