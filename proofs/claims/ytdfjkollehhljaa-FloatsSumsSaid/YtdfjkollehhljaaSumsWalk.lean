/- The walk of FloatsSums, one theorem a case. -/
import Derived.Test.YtdfjkollehhljaaKnown
import Derived.Test.YtdfjkollehhljaaSums
namespace Go.Proofs.Ytdfjkollehhljaa
open Go.RowKit Ieee

/-- What Do answers of a result that may be none. -/
def resV (o : Option Nat) : Int := match o with | some r => (r : Int) | none => 9221120237041090560
theorem do_add (a b : Int) (w : World) : Calls Try.prog 7 #[.int .i64 160, .int .u64 a, .int .u64 b] w (DoEnd (resV (double.add a.toNat b.toNat)) w) := by
  cases h : double.add a.toNat b.toNat with
  | none => exact do_160_nan a b w h
  | some r => exact do_160 a b r w h (add_num h)
theorem do_sub (a b : Int) (w : World) : Calls Try.prog 7 #[.int .i64 161, .int .u64 a, .int .u64 b] w (DoEnd (resV (double.sub a.toNat b.toNat)) w) := by
  cases h : double.sub a.toNat b.toNat with
  | none => exact do_161_nan a b w h
  | some r => exact do_161 a b r w h (sub_num h)
theorem do_mul (a b : Int) (w : World) : Calls Try.prog 7 #[.int .i64 162, .int .u64 a, .int .u64 b] w (DoEnd (resV (double.mul a.toNat b.toNat)) w) := by
  cases h : double.mul a.toNat b.toNat with
  | none => exact do_162_nan a b w h
  | some r => exact do_162 a b r w h (mul_num h)
theorem do_div (a b : Int) (w : World) : Calls Try.prog 7 #[.int .i64 163, .int .u64 a, .int .u64 b] w (DoEnd (resV (double.div a.toNat b.toNat)) w) := by
  cases h : double.div a.toNat b.toNat with
  | none => exact do_163_nan a b w h
  | some r => exact do_163 a b r w h (div_num h)
theorem and_low (a : Int) (h0 : 0 ≤ a) (h1 : a < 18446744073709551616) : bits .and .u64 a 9223372036854775807 = a % 9223372036854775808 := by
  rw [u64_and a _ h0 h1 (by omega) (by omega)]
  have : (9223372036854775807 : Int).toNat = 2 ^ 63 - 1 := by decide
  rw [this, Nat.and_two_pow_sub_one_eq_mod]
  omega
theorem sums_nan (a b S P : Int) (cs : ∀ w, Calls Try.prog 7 #[.int .i64 160, .int .u64 a, .int .u64 b] w (DoEnd S w)) (ct : ∀ w, Calls Try.prog 7 #[.int .i64 160, .int .u64 b, .int .u64 a] w (DoEnd S w)) (cp : ∀ w, Calls Try.prog 7 #[.int .i64 162, .int .u64 a, .int .u64 b] w (DoEnd P w)) (cq : ∀ w, Calls Try.prog 7 #[.int .i64 162, .int .u64 b, .int .u64 a] w (DoEnd P w)) (cd : ∀ w, Calls Try.prog 7 #[.int .i64 161, .int .u64 a, .int .u64 a] w (DoEnd 9221120237041090560 w)) (ce : ∀ w, Calls Try.prog 7 #[.int .i64 163, .int .u64 a, .int .u64 a] w (DoEnd 9221120237041090560 w)) (co : ∀ w, Calls Try.prog 7 #[.int .i64 162, .int .u64 a, .int .u64 4607182418800017408] w (DoEnd 9221120237041090560 w)) (cn : ∀ w, Calls Try.prog 8 #[.int .u64 a] w (fun e w' => e = .returned (.bool true) ∧ w = w')) (w : World) : Calls Try.prog 6 #[.int .u64 a, .int .u64 b] w fun e w' => e = .returned (.bool true) ∧ Grown w w' := by
  have Hcs := Lib.hid cs; clear cs
  have Hct := Lib.hid ct; clear ct
  have Hcp := Lib.hid cp; clear cp
  have Hcq := Lib.hid cq; clear cq
  have Hcd := Lib.hid cd; clear cd
  have Hce := Lib.hid ce; clear ce
  have Hco := Lib.hid co; clear co
  have Hcn := Lib.hid cn; clear cn
  go_enter Try.func6, Try.ntmps6
  go_wp2_with fail
  refine (Hcs.out _).mono ?_
  rintro e w' ⟨rfl, n0, rfl⟩
  go_wp2_with fail
  refine (Hct.out _).mono ?_
  rintro e w' ⟨rfl, n1, rfl⟩
  go_wp2_with fail
  refine (Hcp.out _).mono ?_
  rintro e w' ⟨rfl, n2, rfl⟩
  go_wp2_with fail
  refine (Hcq.out _).mono ?_
  rintro e w' ⟨rfl, n3, rfl⟩
  go_wp2_with fail
  refine (Hcd.out _).mono ?_
  rintro e w' ⟨rfl, n4, rfl⟩
  go_wp2_with fail
  refine (Hce.out _).mono ?_
  rintro e w' ⟨rfl, n5, rfl⟩
  go_wp2_with fail
  refine (Hco.out _).mono ?_
  rintro e w' ⟨rfl, n6, rfl⟩
  go_wp2_with fail
  refine (Hcn.out _).mono ?_
  rintro e w' ⟨rfl, rfl⟩
  go_wp2_with fail
  refine (known_true _).mono ?_
  rintro e w' ⟨rfl, hg⟩
  have Hg := Lib.hid hg; clear hg
  go_wp2_with fail
  go_ret
  exact ⟨rfl, grown_trans (grown_drewN (Grown.refl _) _) Hg.out⟩
theorem sums_inf (a b S P : Int) (cs : ∀ w, Calls Try.prog 7 #[.int .i64 160, .int .u64 a, .int .u64 b] w (DoEnd S w)) (ct : ∀ w, Calls Try.prog 7 #[.int .i64 160, .int .u64 b, .int .u64 a] w (DoEnd S w)) (cp : ∀ w, Calls Try.prog 7 #[.int .i64 162, .int .u64 a, .int .u64 b] w (DoEnd P w)) (cq : ∀ w, Calls Try.prog 7 #[.int .i64 162, .int .u64 b, .int .u64 a] w (DoEnd P w)) (cd : ∀ w, Calls Try.prog 7 #[.int .i64 161, .int .u64 a, .int .u64 a] w (DoEnd 9221120237041090560 w)) (ce : ∀ w, Calls Try.prog 7 #[.int .i64 163, .int .u64 a, .int .u64 a] w (DoEnd 9221120237041090560 w)) (co : ∀ w, Calls Try.prog 7 #[.int .i64 162, .int .u64 a, .int .u64 4607182418800017408] w (DoEnd a w)) (cn : ∀ w, Calls Try.prog 8 #[.int .u64 a] w (fun e w' => e = .returned (.bool false) ∧ w = w')) (hm : bits .and .u64 a 9223372036854775807 = 9218868437227405312) (w : World) : Calls Try.prog 6 #[.int .u64 a, .int .u64 b] w fun e w' => e = .returned (.bool true) ∧ Grown w w' := by
  have Hcs := Lib.hid cs; clear cs
  have Hct := Lib.hid ct; clear ct
  have Hcp := Lib.hid cp; clear cp
  have Hcq := Lib.hid cq; clear cq
  have Hcd := Lib.hid cd; clear cd
  have Hce := Lib.hid ce; clear ce
  have Hco := Lib.hid co; clear co
  have Hcn := Lib.hid cn; clear cn
  go_enter Try.func6, Try.ntmps6
  go_wp2_with fail
  refine (Hcs.out _).mono ?_
  rintro e w' ⟨rfl, n0, rfl⟩
  go_wp2_with fail
  refine (Hct.out _).mono ?_
  rintro e w' ⟨rfl, n1, rfl⟩
  go_wp2_with fail
  refine (Hcp.out _).mono ?_
  rintro e w' ⟨rfl, n2, rfl⟩
  go_wp2_with fail
  refine (Hcq.out _).mono ?_
  rintro e w' ⟨rfl, n3, rfl⟩
  go_wp2_with fail
  refine (Hcd.out _).mono ?_
  rintro e w' ⟨rfl, n4, rfl⟩
  go_wp2_with fail
  refine (Hce.out _).mono ?_
  rintro e w' ⟨rfl, n5, rfl⟩
  go_wp2_with fail
  refine (Hco.out _).mono ?_
  rintro e w' ⟨rfl, n6, rfl⟩
  go_wp2_with fail
  refine (Hcn.out _).mono ?_
  rintro e w' ⟨rfl, rfl⟩
  go_wp2_with fail
  refine (known_true _).mono ?_
  rintro e w' ⟨rfl, hg⟩
  have Hg := Lib.hid hg; clear hg
  go_wp2_with fail
  go_ret
  exact ⟨rfl, grown_trans (grown_drewN (Grown.refl _) _) Hg.out⟩
theorem sums_zero (a b S P : Int) (cs : ∀ w, Calls Try.prog 7 #[.int .i64 160, .int .u64 a, .int .u64 b] w (DoEnd S w)) (ct : ∀ w, Calls Try.prog 7 #[.int .i64 160, .int .u64 b, .int .u64 a] w (DoEnd S w)) (cp : ∀ w, Calls Try.prog 7 #[.int .i64 162, .int .u64 a, .int .u64 b] w (DoEnd P w)) (cq : ∀ w, Calls Try.prog 7 #[.int .i64 162, .int .u64 b, .int .u64 a] w (DoEnd P w)) (cd : ∀ w, Calls Try.prog 7 #[.int .i64 161, .int .u64 a, .int .u64 a] w (DoEnd 0 w)) (ce : ∀ w, Calls Try.prog 7 #[.int .i64 163, .int .u64 a, .int .u64 a] w (DoEnd 9221120237041090560 w)) (co : ∀ w, Calls Try.prog 7 #[.int .i64 162, .int .u64 a, .int .u64 4607182418800017408] w (DoEnd a w)) (cn : ∀ w, Calls Try.prog 8 #[.int .u64 a] w (fun e w' => e = .returned (.bool false) ∧ w = w')) (hm : bits .and .u64 a 9223372036854775807 = 0) (w : World) : Calls Try.prog 6 #[.int .u64 a, .int .u64 b] w fun e w' => e = .returned (.bool true) ∧ Grown w w' := by
  have Hcs := Lib.hid cs; clear cs
  have Hct := Lib.hid ct; clear ct
  have Hcp := Lib.hid cp; clear cp
  have Hcq := Lib.hid cq; clear cq
  have Hcd := Lib.hid cd; clear cd
  have Hce := Lib.hid ce; clear ce
  have Hco := Lib.hid co; clear co
  have Hcn := Lib.hid cn; clear cn
  go_enter Try.func6, Try.ntmps6
  go_wp2_with fail
  refine (Hcs.out _).mono ?_
  rintro e w' ⟨rfl, n0, rfl⟩
  go_wp2_with fail
  refine (Hct.out _).mono ?_
  rintro e w' ⟨rfl, n1, rfl⟩
  go_wp2_with fail
  refine (Hcp.out _).mono ?_
  rintro e w' ⟨rfl, n2, rfl⟩
  go_wp2_with fail
  refine (Hcq.out _).mono ?_
  rintro e w' ⟨rfl, n3, rfl⟩
  go_wp2_with fail
  refine (Hcd.out _).mono ?_
  rintro e w' ⟨rfl, n4, rfl⟩
  go_wp2_with fail
  refine (Hce.out _).mono ?_
  rintro e w' ⟨rfl, n5, rfl⟩
  go_wp2_with fail
  refine (Hco.out _).mono ?_
  rintro e w' ⟨rfl, n6, rfl⟩
  go_wp2_with fail
  refine (Hcn.out _).mono ?_
  rintro e w' ⟨rfl, rfl⟩
  go_wp2_with fail
  refine (known_true _).mono ?_
  rintro e w' ⟨rfl, hg⟩
  have Hg := Lib.hid hg; clear hg
  go_wp2_with fail
  go_ret
  exact ⟨rfl, grown_trans (grown_drewN (Grown.refl _) _) Hg.out⟩
theorem sums_num (a b S P m : Int) (cs : ∀ w, Calls Try.prog 7 #[.int .i64 160, .int .u64 a, .int .u64 b] w (DoEnd S w)) (ct : ∀ w, Calls Try.prog 7 #[.int .i64 160, .int .u64 b, .int .u64 a] w (DoEnd S w)) (cp : ∀ w, Calls Try.prog 7 #[.int .i64 162, .int .u64 a, .int .u64 b] w (DoEnd P w)) (cq : ∀ w, Calls Try.prog 7 #[.int .i64 162, .int .u64 b, .int .u64 a] w (DoEnd P w)) (cd : ∀ w, Calls Try.prog 7 #[.int .i64 161, .int .u64 a, .int .u64 a] w (DoEnd 0 w)) (ce : ∀ w, Calls Try.prog 7 #[.int .i64 163, .int .u64 a, .int .u64 a] w (DoEnd 4607182418800017408 w)) (co : ∀ w, Calls Try.prog 7 #[.int .i64 162, .int .u64 a, .int .u64 4607182418800017408] w (DoEnd a w)) (cn : ∀ w, Calls Try.prog 8 #[.int .u64 a] w (fun e w' => e = .returned (.bool false) ∧ w = w')) (hm : bits .and .u64 a 9223372036854775807 = m) (hm1 : (m == 9218868437227405312) = false) (hm2 : (m == 0) = false) (hm3 : (m != 0) = true) (w : World) : Calls Try.prog 6 #[.int .u64 a, .int .u64 b] w fun e w' => e = .returned (.bool true) ∧ Grown w w' := by
  have Hcs := Lib.hid cs; clear cs
  have Hct := Lib.hid ct; clear ct
  have Hcp := Lib.hid cp; clear cp
  have Hcq := Lib.hid cq; clear cq
  have Hcd := Lib.hid cd; clear cd
  have Hce := Lib.hid ce; clear ce
  have Hco := Lib.hid co; clear co
  have Hcn := Lib.hid cn; clear cn
  go_enter Try.func6, Try.ntmps6
  go_wp2_with fail
  refine (Hcs.out _).mono ?_
  rintro e w' ⟨rfl, n0, rfl⟩
  go_wp2_with fail
  refine (Hct.out _).mono ?_
  rintro e w' ⟨rfl, n1, rfl⟩
  go_wp2_with fail
  refine (Hcp.out _).mono ?_
  rintro e w' ⟨rfl, n2, rfl⟩
  go_wp2_with fail
  refine (Hcq.out _).mono ?_
  rintro e w' ⟨rfl, n3, rfl⟩
  go_wp2_with fail
  refine (Hcd.out _).mono ?_
  rintro e w' ⟨rfl, n4, rfl⟩
  go_wp2_with fail
  refine (Hce.out _).mono ?_
  rintro e w' ⟨rfl, n5, rfl⟩
  go_wp2_with fail
  refine (Hco.out _).mono ?_
  rintro e w' ⟨rfl, n6, rfl⟩
  go_wp2_with fail
  refine (Hcn.out _).mono ?_
  rintro e w' ⟨rfl, rfl⟩
  go_wp2_with fail
  refine (known_true _).mono ?_
  rintro e w' ⟨rfl, hg⟩
  have Hg := Lib.hid hg; clear hg
  go_wp2_with fail
  go_ret
  exact ⟨rfl, grown_trans (grown_drewN (Grown.refl _) _) Hg.out⟩
theorem sums_walk (a b : Int) (a0 : 0 ≤ a) (a1 : a < 18446744073709551616) (w : World) : Calls Try.prog 6 #[.int .u64 a, .int .u64 b] w fun e w' => e = .returned (.bool true) ∧ Grown w w' := by
  have cs := do_add a b
  have ct := do_add b a
  rw [add_comm] at ct
  have cp := do_mul a b
  have cq := do_mul b a
  rw [mul_comm] at cq
  have cd := do_sub a a
  have ce := do_div a a
  have co := do_mul a 4607182418800017408
  have cn := naN_any a
  have e1 : (4607182418800017408 : Int).toNat = 4607182418800017408 := by decide
  rw [e1] at co
  have hl := and_low a a0 a1
  have ha : a = ((a.toNat : Nat) : Int) := by omega
  rcases cases_of a.toNat (by omega) with h | ⟨h, s, e⟩ | ⟨h, s, m, p, hc, e⟩
  · rw [h] at cn
    rw [sub_nan h] at cd
    rw [div_nan h] at ce
    rw [mul_nan h] at co
    exact sums_nan a b _ _ cs ct cp cq cd ce co cn w
  · rw [h] at cn
    have v : resV (some (double.word s 9218868437227405312)) = a := by rw [← e]; exact ha.symm
    have hmod : a.toNat % 9223372036854775808 = 9218868437227405312 := by rw [e]; exact Fl.word_mod (by omega)
    clear ha
    rw [e, add_inf] at cd
    rw [e, div_inf] at ce
    rw [e, mul_inf, v] at co
    exact sums_inf a b _ _ cs ct cp cq cd ce co cn (by rw [hl]; omega) w
  · rw [h] at cn
    have v : resV (some (double.word s (Fl.rungOf m p))) = a := by rw [← e]; exact ha.symm
    have hr := Fl.rung_lt hc
    have hmod : a.toNat % 9223372036854775808 = Fl.rungOf m p := by rw [e]; exact Fl.word_mod (by omega)
    clear ha
    rw [e, mul_one hc, v] at co
    rw [e, sub_self hc] at cd
    by_cases h0 : m = 0
    · have hz : Fl.rungOf m p = 0 := by
        obtain ⟨_, _, _, q⟩ := hc
        unfold Fl.rungOf
        omega
      rw [e, hz, div_zero] at ce
      exact sums_zero a b _ _ cs ct cp cq cd ce co cn (by rw [hl]; omega) w
    · have hz : Fl.rungOf m p ≠ 0 := by unfold Fl.rungOf; omega
      rw [e, div_self hc h0] at ce
      exact sums_num a b _ _ _ cs ct cp cq cd ce co cn hl (by simp; omega) (by simp; omega) (by simp; omega) w

end Go.Proofs.Ytdfjkollehhljaa
