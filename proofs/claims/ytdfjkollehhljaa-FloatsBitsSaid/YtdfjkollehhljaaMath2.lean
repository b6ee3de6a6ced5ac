/- Plain facts on numbers with a point: order, whole numbers, sums, products, quotients. -/
import Derived.Test.YtdfjkollehhljaaMath
namespace Go.Proofs.Ytdfjkollehhljaa
namespace Fl
open Ieee

theorem signed_up (s : Bool) (m a b : Nat) : signed s m (a + b) = signed s m a * (2 ^ b : Nat) := by
  unfold signed
  have : m <<< (a + b) = (m <<< a) * 2 ^ b := by simp only [Nat.shiftLeft_eq, Nat.pow_add, Nat.mul_assoc]
  rw [this]
  cases s <;> simp [Int.neg_mul]

theorem compare_mul (a b : Int) (k : Nat) : compare (a * (2 ^ k : Nat)) (b * (2 ^ k : Nat)) = compare a b := by
  have hp : (0 : Int) < ((2 ^ k : Nat) : Int) := by exact_mod_cast Nat.two_pow_pos k
  rw [Int.compare_eq_ite_lt, Int.compare_eq_ite_lt]
  have e1 : (a * (2 ^ k : Nat) < b * (2 ^ k : Nat)) ↔ a < b := ⟨fun h => Int.lt_of_mul_lt_mul_right h (by omega), fun h => Int.mul_lt_mul_of_pos_right h hp⟩
  have e2 : (b * (2 ^ k : Nat) < a * (2 ^ k : Nat)) ↔ b < a := ⟨fun h => Int.lt_of_mul_lt_mul_right h (by omega), fun h => Int.mul_lt_mul_of_pos_right h hp⟩
  simp only [e1, e2]

/-- A number's value, in units of the least one. -/
def valN (s : Bool) (m : Nat) (p : Int) : Int := signed s m (p + 1074).toNat

theorem order_num {s t : Bool} {m n : Nat} {i j : Int} (hi : -1074 ≤ i) (hj : -1074 ≤ j) :
    (Datum.number s m i).order (.number t n j) = some (compare (valN s m i) (valN t n j)) := by
  simp only [Datum.order]
  have h1 : (i + 1074).toNat = (i - min i j).toNat + (min i j + 1074).toNat := by omega
  have h2 : (j + 1074).toNat = (j - min i j).toNat + (min i j + 1074).toNat := by omega
  unfold valN
  rw [h1, h2, signed_up, signed_up, compare_mul]

/-- How two words that are numbers stand to each other. -/
theorem order_word {s t : Bool} {m n : Nat} {i j : Int} (hi : Canon m i) (hj : Canon n j) :
    double.order (double.word s (rungOf m i)) (double.word t (rungOf n j)) = some (compare (valN s m i) (valN t n j)) := by
  unfold Format.order
  rw [read_word hi, read_word hj, order_num hi.2.1 hj.2.1]

/-- The parts of a cut. -/
theorem cut_parts (m j : Nat) : ∃ (low : Nat) (r e : Bool),
    (∀ s, Toward.down.cut s m j = low + (s && r).toNat) ∧ (∀ s, Toward.up.cut s m j = low + (!s && r).toNat) ∧ (∀ s, Toward.zero.cut s m j = low) ∧
    (∀ s, Toward.even.cut s m j = low + (r && e).toNat) ∧
    (r = false → low * 2 ^ j = m) ∧ low * 2 ^ j ≤ m ∧ (r = true → m ≤ (low + 1) * 2 ^ j) ∧ (j = 0 → low = m ∧ r = false) ∧ (0 < j → low ≤ m / 2) ∧ (m = 0 → r = false) := by
  have hgp : 0 < 2 ^ (min j (m.log2 + 2)) := Nat.two_pow_pos _
  refine ⟨m / 2 ^ (min j (m.log2 + 2)), m % 2 ^ (min j (m.log2 + 2)) != 0,
    decide (2 ^ (min j (m.log2 + 2)) < 2 * (m % 2 ^ (min j (m.log2 + 2)))) || (2 ^ (min j (m.log2 + 2)) == 2 * (m % 2 ^ (min j (m.log2 + 2))) && m / 2 ^ (min j (m.log2 + 2)) % 2 == 1), ?_, ?_, ?_, ?_, ?_⟩
  · intro s; unfold Toward.cut; simp only [Nat.shiftLeft_eq, Nat.one_mul]
  · intro s; unfold Toward.cut; simp only [Nat.shiftLeft_eq, Nat.one_mul]
  · intro s; unfold Toward.cut; simp only [Nat.shiftLeft_eq, Nat.one_mul]; rfl
  · intro s; unfold Toward.cut; simp only [Nat.shiftLeft_eq, Nat.one_mul]
    generalize 2 ^ (min j (m.log2 + 2)) = g at *
    by_cases h0 : m % g = 0
    · rw [h0]
      have : (decide (g < 2 * 0) || (g == 2 * 0 && m / g % 2 == 1)) = false := by
        simp; omega
      rw [this]; simp
    · have : (m % g != 0) = true := by simpa using h0
      rw [this, Bool.true_and]
  · rcases Nat.le_total j (m.log2 + 2) with h | h
    · rw [Nat.min_eq_left h]
      have hp : 0 < 2 ^ j := Nat.two_pow_pos _
      have hd := Nat.div_add_mod m (2 ^ j)
      have hr := Nat.mod_lt m hp
      rw [Nat.mul_comm] at hd
      refine ⟨fun h0 => ?_, by omega, fun _ => by rw [Nat.add_mul]; omega, fun h0 => ?_, fun h0 => ?_, fun h0 => by subst h0; simp⟩
      · have : m % 2 ^ j = 0 := by simpa using h0
        omega
      · subst h0; simp [Nat.mod_one]
      · obtain ⟨q, rfl⟩ : ∃ q, j = q + 1 := ⟨j - 1, by omega⟩
        rw [Nat.pow_succ, Nat.mul_comm, ← Nat.div_div_eq_div_mul]
        exact Nat.div_le_self _ _
    · rw [Nat.min_eq_right h]
      by_cases hm : m = 0
      · subst hm
        have hp : 0 < 2 ^ j := Nat.two_pow_pos _
        simp
      · have hlt : m < 2 ^ (m.log2 + 2) := by
          have := (Nat.log2_lt hm (k := m.log2 + 1)).1 (by omega)
          rw [Nat.pow_succ]; omega
        have hle : 2 ^ (m.log2 + 2) ≤ 2 ^ j := Nat.pow_le_pow_right (by omega) h
        rw [Nat.div_eq_of_lt hlt, Nat.mod_eq_of_lt hlt]
        refine ⟨fun h0 => absurd h0 (by simpa using hm), by omega, fun _ => by omega, fun h0 => by omega, fun _ => by omega, fun h0 => absurd h0 hm⟩

/-- A whole number that a word can stand for. -/
def Whole (n : Nat) : Prop := ∃ m p, Canon m p ∧ (∀ s, double.nearest s n 0 = double.word s (rungOf m p)) ∧ (∀ s, valN s m p = signed s n 1074) ∧ ∀ way s, (Datum.number s m p).integral way = .number s n 0

theorem whole_shl {m : Nat} {i : Int} (hc : Canon m i) (h0 : 0 ≤ i) : Whole (m <<< i.toNat) := by
  refine ⟨m, i, hc, fun s => ?_, fun s => ?_, fun way s => ?_⟩
  · have := nearest_up s hc i.toNat
    rwa [show i - (i.toNat : Int) = 0 from by omega] at this
  · unfold valN signed
    have : (i + 1074).toNat = i.toNat + 1074 := by omega
    rw [this, Nat.shiftLeft_add]
  · simp only [Datum.integral]
    rw [show (-i).toNat = 0 from by omega, cut_zero]

theorem whole_lt {n : Nat} (h : n < 2 ^ 53) : Whole n := by
  by_cases hn : n = 0
  · subst hn
    refine ⟨0, -1074, ⟨by omega, by omega, by omega, .inr rfl⟩, fun s => ?_, fun s => ?_, fun way s => ?_⟩
    · simp [Format.nearest, rungOf]
    · unfold valN signed; simp
    · simp only [Datum.integral]
      have : (0 : Nat) <<< (-1074 : Int).toNat = 0 <<< 1074 := rfl
      rw [this, show (-(-1074 : Int)).toNat = 1074 from rfl, cut_shl]
  · have hl : n.log2 ≤ 52 := by have := (Nat.log2_lt hn (k := 53)).2 h; omega
    have hc : Canon (n <<< (52 - n.log2)) (-((52 - n.log2 : Nat) : Int)) := by
      have hs := log2_shl n (52 - n.log2) hn
      have hs0 : n <<< (52 - n.log2) ≠ 0 := by
        rw [Nat.shiftLeft_eq]
        exact Nat.mul_ne_zero hn (Nat.pos_iff_ne_zero.1 (Nat.two_pow_pos _))
      refine ⟨(Nat.log2_lt hs0).1 (by omega), by omega, by omega, .inl ((Nat.le_log2 hs0).1 (by omega))⟩
    refine ⟨_, _, hc, fun s => ?_, fun s => ?_, fun way s => ?_⟩
    · have := nearest_down s hc
      rwa [show -((52 - n.log2 : Nat) : Int) + ((52 - n.log2 : Nat) : Int) = 0 from by omega] at this
    · unfold valN signed
      rw [← Nat.shiftLeft_add]
      have : 52 - n.log2 + (-((52 - n.log2 : Nat) : Int) + 1074).toNat = 1074 := by omega
      rw [this]
    · simp only [Datum.integral]
      rw [show (-((52 - n.log2 : Nat) : Int)).toNat = 0 from by omega, Nat.shiftLeft_zero, show (-(-((52 - n.log2 : Nat) : Int))).toNat = 52 - n.log2 from by omega, cut_shl]

/-- What the ways to a whole number make of a number: the parts, and how they lie. -/
theorem integral_parts {m : Nat} {i : Int} (hc : Canon m i) : ∃ (low : Nat) (r e : Bool),
    (∀ s, (Datum.number s m i).integral .down = .number s (low + (s && r).toNat) 0) ∧ (∀ s, (Datum.number s m i).integral .up = .number s (low + (!s && r).toNat) 0) ∧
    (∀ s, (Datum.number s m i).integral .zero = .number s low 0) ∧ (∀ s, (Datum.number s m i).integral .even = .number s (low + (r && e).toNat) 0) ∧
    Whole low ∧ (r = true → Whole (low + 1)) ∧ (low : Int) * (2 ^ 1074 : Nat) ≤ valN false m i ∧ (r = false → (low : Int) * (2 ^ 1074 : Nat) = valN false m i) ∧ (r = true → valN false m i ≤ ((low + 1 : Nat) : Int) * (2 ^ 1074 : Nat)) ∧ (m = 0 → r = false) := by
  obtain ⟨low, r, e, h1, h2, h3, h4, h5, h6, h7, h8, h9, h10⟩ := cut_parts (m <<< i.toNat) (-i).toNat
  have hv : valN false m i = ((m <<< i.toNat : Nat) : Int) * (2 ^ (1074 - (-i).toNat) : Nat) := by
    have hc2 := hc.2.1
    unfold valN signed
    simp only [Bool.false_eq_true, if_false]
    rw [show (i + 1074).toNat = i.toNat + (1074 - (-i).toNat) from by omega, Nat.shiftLeft_add]
    generalize m <<< i.toNat = q
    rw [Nat.shiftLeft_eq]
    push_cast
    rfl
  have hp : (2 ^ 1074 : Nat) = 2 ^ (-i).toNat * 2 ^ (1074 - (-i).toNat) := by
    have hc2 := hc.2.1
    rw [← Nat.pow_add, show (-i).toNat + (1074 - (-i).toNat) = 1074 from by omega]
  have hz : (0 : Int) ≤ ((2 ^ (1074 - (-i).toNat) : Nat) : Int) := Int.natCast_nonneg _
  have hw : Whole low ∧ (r = true → Whole (low + 1)) := by
    by_cases hi : 0 ≤ i
    · obtain ⟨a, b⟩ := h8 (by omega)
      subst a
      refine ⟨whole_shl hc hi, fun h => ?_⟩
      rw [b] at h; cases h
    · have a := h9 (by omega)
      rw [show i.toNat = 0 from by omega, Nat.shiftLeft_zero] at a
      have := hc.1
      exact ⟨whole_lt (by omega), fun _ => whole_lt (by omega)⟩
  refine ⟨low, r, e, fun s => ?_, fun s => ?_, fun s => ?_, fun s => ?_, hw.1, hw.2, ?_, ?_, ?_, fun h0 => h10 (by rw [h0, Nat.zero_shiftLeft])⟩
  · simp only [Datum.integral]; rw [h1]
  · simp only [Datum.integral]; rw [h2]
  · simp only [Datum.integral]; rw [h3]
  · simp only [Datum.integral]; rw [h4]
  · rw [hv, hp]
    push_cast
    rw [← Int.mul_assoc]
    exact Int.mul_le_mul_of_nonneg_right (by exact_mod_cast h6) (by exact_mod_cast hz)
  · intro hr
    rw [hv, hp, ← h5 hr]
    push_cast
    rw [← Int.mul_assoc]
  · intro hr
    rw [hv, hp, Int.natCast_mul, ← Int.mul_assoc]
    exact Int.mul_le_mul_of_nonneg_right (by exact_mod_cast h7 hr) hz

end Fl
end Go.Proofs.Ytdfjkollehhljaa
