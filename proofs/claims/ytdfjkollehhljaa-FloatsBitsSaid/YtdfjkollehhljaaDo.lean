/- The walk: floats.Do at each op that the statements name, but those that cut off to whole numbers. -/
import Derived.Test.YtdfjkollehhljaaReck
namespace Go.Proofs.Ytdfjkollehhljaa
open Go.RowKit

def sgnB (x : Nat) : Bool := decide (wrap64 (x : Int) < 0)
theorem sign_any (x : Nat) (w : World) : Calls Try.prog 38 #[.float .f64 x] w fun e w' => e = .returned (.bool (sgnB x)) ∧ w = w' := by
  have hc := fun w => call16 x w
  go_enter Try.func38, Try.ntmps38
  go_wp2
  go_ret
  exact ⟨rfl, rfl⟩
/-- A yes or no as a number. -/
def yesI (b : Bool) : Int := if b then 1 else 0
theorem truth_any (b : Bool) (w : World) : Calls Try.prog 12 #[.bool b] w fun e w' => e = .returned (.int .u64 (yesI b)) ∧ w = w' := by
  cases b
  all_goals
    go_enter Try.func12, Try.ntmps12
    go_wp2
    go_ret
    exact ⟨rfl, rfl⟩
/-- How two numbers compare: the op's own question. -/
def ordB (x y : Nat) (o : Ordering) : Bool := FloatKind.f64.format.order x y == some o
theorem is_97 (w : World) : Calls Try.prog 11 #[.int .i64 97] w fun e w' => e = .returned (.bool true) ∧ w = w' := by
  go_enter Try.func11, Try.ntmps11
  go_wp2
  go_ret
  exact ⟨rfl, rfl⟩
theorem is_98 (w : World) : Calls Try.prog 11 #[.int .i64 98] w fun e w' => e = .returned (.bool true) ∧ w = w' := by
  go_enter Try.func11, Try.ntmps11
  go_wp2
  go_ret
  exact ⟨rfl, rfl⟩
theorem is_99 (w : World) : Calls Try.prog 11 #[.int .i64 99] w fun e w' => e = .returned (.bool true) ∧ w = w' := by
  go_enter Try.func11, Try.ntmps11
  go_wp2
  go_ret
  exact ⟨rfl, rfl⟩
theorem is_100 (w : World) : Calls Try.prog 11 #[.int .i64 100] w fun e w' => e = .returned (.bool true) ∧ w = w' := by
  go_enter Try.func11, Try.ntmps11
  go_wp2
  go_ret
  exact ⟨rfl, rfl⟩
theorem is_101 (w : World) : Calls Try.prog 11 #[.int .i64 101] w fun e w' => e = .returned (.bool true) ∧ w = w' := by
  go_enter Try.func11, Try.ntmps11
  go_wp2
  go_ret
  exact ⟨rfl, rfl⟩
theorem is_102 (w : World) : Calls Try.prog 11 #[.int .i64 102] w fun e w' => e = .returned (.bool true) ∧ w = w' := by
  go_enter Try.func11, Try.ntmps11
  go_wp2
  go_ret
  exact ⟨rfl, rfl⟩
theorem is_153 (w : World) : Calls Try.prog 11 #[.int .i64 153] w fun e w' => e = .returned (.bool true) ∧ w = w' := by
  go_enter Try.func11, Try.ntmps11
  go_wp2
  go_ret
  exact ⟨rfl, rfl⟩
theorem is_154 (w : World) : Calls Try.prog 11 #[.int .i64 154] w fun e w' => e = .returned (.bool true) ∧ w = w' := by
  go_enter Try.func11, Try.ntmps11
  go_wp2
  go_ret
  exact ⟨rfl, rfl⟩
theorem is_155 (w : World) : Calls Try.prog 11 #[.int .i64 155] w fun e w' => e = .returned (.bool true) ∧ w = w' := by
  go_enter Try.func11, Try.ntmps11
  go_wp2
  go_ret
  exact ⟨rfl, rfl⟩
theorem is_156 (w : World) : Calls Try.prog 11 #[.int .i64 156] w fun e w' => e = .returned (.bool true) ∧ w = w' := by
  go_enter Try.func11, Try.ntmps11
  go_wp2
  go_ret
  exact ⟨rfl, rfl⟩
theorem is_157 (w : World) : Calls Try.prog 11 #[.int .i64 157] w fun e w' => e = .returned (.bool true) ∧ w = w' := by
  go_enter Try.func11, Try.ntmps11
  go_wp2
  go_ret
  exact ⟨rfl, rfl⟩
theorem is_158 (w : World) : Calls Try.prog 11 #[.int .i64 158] w fun e w' => e = .returned (.bool true) ∧ w = w' := by
  go_enter Try.func11, Try.ntmps11
  go_wp2
  go_ret
  exact ⟨rfl, rfl⟩
theorem is_160 (w : World) : Calls Try.prog 11 #[.int .i64 160] w fun e w' => e = .returned (.bool true) ∧ w = w' := by
  go_enter Try.func11, Try.ntmps11
  go_wp2
  go_ret
  exact ⟨rfl, rfl⟩
theorem is_161 (w : World) : Calls Try.prog 11 #[.int .i64 161] w fun e w' => e = .returned (.bool true) ∧ w = w' := by
  go_enter Try.func11, Try.ntmps11
  go_wp2
  go_ret
  exact ⟨rfl, rfl⟩
theorem is_162 (w : World) : Calls Try.prog 11 #[.int .i64 162] w fun e w' => e = .returned (.bool true) ∧ w = w' := by
  go_enter Try.func11, Try.ntmps11
  go_wp2
  go_ret
  exact ⟨rfl, rfl⟩
theorem is_163 (w : World) : Calls Try.prog 11 #[.int .i64 163] w fun e w' => e = .returned (.bool true) ∧ w = w' := by
  go_enter Try.func11, Try.ntmps11
  go_wp2
  go_ret
  exact ⟨rfl, rfl⟩
theorem is_164 (w : World) : Calls Try.prog 11 #[.int .i64 164] w fun e w' => e = .returned (.bool true) ∧ w = w' := by
  go_enter Try.func11, Try.ntmps11
  go_wp2
  go_ret
  exact ⟨rfl, rfl⟩
theorem is_165 (w : World) : Calls Try.prog 11 #[.int .i64 165] w fun e w' => e = .returned (.bool true) ∧ w = w' := by
  go_enter Try.func11, Try.ntmps11
  go_wp2
  go_ret
  exact ⟨rfl, rfl⟩
theorem is_166 (w : World) : Calls Try.prog 11 #[.int .i64 166] w fun e w' => e = .returned (.bool true) ∧ w = w' := by
  go_enter Try.func11, Try.ntmps11
  go_wp2
  go_ret
  exact ⟨rfl, rfl⟩
theorem is_170 (w : World) : Calls Try.prog 11 #[.int .i64 170] w fun e w' => e = .returned (.bool true) ∧ w = w' := by
  go_enter Try.func11, Try.ntmps11
  go_wp2
  go_ret
  exact ⟨rfl, rfl⟩
theorem is_171 (w : World) : Calls Try.prog 11 #[.int .i64 171] w fun e w' => e = .returned (.bool true) ∧ w = w' := by
  go_enter Try.func11, Try.ntmps11
  go_wp2
  go_ret
  exact ⟨rfl, rfl⟩
theorem is_176 (w : World) : Calls Try.prog 11 #[.int .i64 176] w fun e w' => e = .returned (.bool true) ∧ w = w' := by
  go_enter Try.func11, Try.ntmps11
  go_wp2
  go_ret
  exact ⟨rfl, rfl⟩
theorem is_177 (w : World) : Calls Try.prog 11 #[.int .i64 177] w fun e w' => e = .returned (.bool true) ∧ w = w' := by
  go_enter Try.func11, Try.ntmps11
  go_wp2
  go_ret
  exact ⟨rfl, rfl⟩
theorem is_183 (w : World) : Calls Try.prog 11 #[.int .i64 183] w fun e w' => e = .returned (.bool true) ∧ w = w' := by
  go_enter Try.func11, Try.ntmps11
  go_wp2
  go_ret
  exact ⟨rfl, rfl⟩
theorem is_184 (w : World) : Calls Try.prog 11 #[.int .i64 184] w fun e w' => e = .returned (.bool true) ∧ w = w' := by
  go_enter Try.func11, Try.ntmps11
  go_wp2
  go_ret
  exact ⟨rfl, rfl⟩
theorem is_64514 (w : World) : Calls Try.prog 11 #[.int .i64 64514] w fun e w' => e = .returned (.bool true) ∧ w = w' := by
  go_enter Try.func11, Try.ntmps11
  go_wp2
  go_ret
  exact ⟨rfl, rfl⟩
theorem is_64515 (w : World) : Calls Try.prog 11 #[.int .i64 64515] w fun e w' => e = .returned (.bool true) ∧ w = w' := by
  go_enter Try.func11, Try.ntmps11
  go_wp2
  go_ret
  exact ⟨rfl, rfl⟩
theorem is_64518 (w : World) : Calls Try.prog 11 #[.int .i64 64518] w fun e w' => e = .returned (.bool true) ∧ w = w' := by
  go_enter Try.func11, Try.ntmps11
  go_wp2
  go_ret
  exact ⟨rfl, rfl⟩
theorem is_64519 (w : World) : Calls Try.prog 11 #[.int .i64 64519] w fun e w' => e = .returned (.bool true) ∧ w = w' := by
  go_enter Try.func11, Try.ntmps11
  go_wp2
  go_ret
  exact ⟨rfl, rfl⟩
theorem cmp_97 (x y : Nat) (w : World) : Calls Try.prog 13 #[.int .i64 97, .float .f64 x, .float .f64 y] w fun e w' => e = .returned (.bool (ordB x y .eq)) ∧ w = w' := by
  go_enter Try.func13, Try.ntmps13
  go_wp2
  go_ret
  exact ⟨rfl, rfl⟩
theorem do_97 (a b : Int) (w : World) : Calls Try.prog 7 #[.int .i64 97, .int .u64 a, .int .u64 b] w fun e w' => e = .returned (.tuple #[.int .u64 (yesI (ordB a.toNat b.toNat .eq)), .int .i64 0]) ∧ w = w' := by
  have h1 := fun n w => call10 n w
  go_enter Try.func7, Try.ntmps7
  go_wp2_with (first | (go_at_call 11; refine (is_97 _).mono ?_; rintro e w' ⟨rfl, rfl⟩) | (go_at_call 13; refine (cmp_97 _ _ _).mono ?_; rintro e w' ⟨rfl, rfl⟩) | (go_at_call 12; refine (truth_any _ _).mono ?_; rintro e w' ⟨rfl, rfl⟩))
  go_ret2
  exact ⟨rfl, rfl⟩
theorem cmp_98 (x y : Nat) (w : World) : Calls Try.prog 13 #[.int .i64 98, .float .f64 x, .float .f64 y] w fun e w' => e = .returned (.bool (!ordB x y .eq)) ∧ w = w' := by
  go_enter Try.func13, Try.ntmps13
  go_wp2
  go_ret
  exact ⟨rfl, rfl⟩
theorem do_98 (a b : Int) (w : World) : Calls Try.prog 7 #[.int .i64 98, .int .u64 a, .int .u64 b] w fun e w' => e = .returned (.tuple #[.int .u64 (yesI (!ordB a.toNat b.toNat .eq)), .int .i64 0]) ∧ w = w' := by
  have h1 := fun n w => call10 n w
  go_enter Try.func7, Try.ntmps7
  go_wp2_with (first | (go_at_call 11; refine (is_98 _).mono ?_; rintro e w' ⟨rfl, rfl⟩) | (go_at_call 13; refine (cmp_98 _ _ _).mono ?_; rintro e w' ⟨rfl, rfl⟩) | (go_at_call 12; refine (truth_any _ _).mono ?_; rintro e w' ⟨rfl, rfl⟩))
  go_ret2
  exact ⟨rfl, rfl⟩
theorem cmp_99 (x y : Nat) (w : World) : Calls Try.prog 13 #[.int .i64 99, .float .f64 x, .float .f64 y] w fun e w' => e = .returned (.bool (ordB x y .lt)) ∧ w = w' := by
  go_enter Try.func13, Try.ntmps13
  go_wp2
  go_ret
  exact ⟨rfl, rfl⟩
theorem do_99 (a b : Int) (w : World) : Calls Try.prog 7 #[.int .i64 99, .int .u64 a, .int .u64 b] w fun e w' => e = .returned (.tuple #[.int .u64 (yesI (ordB a.toNat b.toNat .lt)), .int .i64 0]) ∧ w = w' := by
  have h1 := fun n w => call10 n w
  go_enter Try.func7, Try.ntmps7
  go_wp2_with (first | (go_at_call 11; refine (is_99 _).mono ?_; rintro e w' ⟨rfl, rfl⟩) | (go_at_call 13; refine (cmp_99 _ _ _).mono ?_; rintro e w' ⟨rfl, rfl⟩) | (go_at_call 12; refine (truth_any _ _).mono ?_; rintro e w' ⟨rfl, rfl⟩))
  go_ret2
  exact ⟨rfl, rfl⟩
theorem cmp_100 (x y : Nat) (w : World) : Calls Try.prog 13 #[.int .i64 100, .float .f64 x, .float .f64 y] w fun e w' => e = .returned (.bool (ordB x y .gt)) ∧ w = w' := by
  go_enter Try.func13, Try.ntmps13
  go_wp2
  go_ret
  exact ⟨rfl, rfl⟩
theorem do_100 (a b : Int) (w : World) : Calls Try.prog 7 #[.int .i64 100, .int .u64 a, .int .u64 b] w fun e w' => e = .returned (.tuple #[.int .u64 (yesI (ordB a.toNat b.toNat .gt)), .int .i64 0]) ∧ w = w' := by
  have h1 := fun n w => call10 n w
  go_enter Try.func7, Try.ntmps7
  go_wp2_with (first | (go_at_call 11; refine (is_100 _).mono ?_; rintro e w' ⟨rfl, rfl⟩) | (go_at_call 13; refine (cmp_100 _ _ _).mono ?_; rintro e w' ⟨rfl, rfl⟩) | (go_at_call 12; refine (truth_any _ _).mono ?_; rintro e w' ⟨rfl, rfl⟩))
  go_ret2
  exact ⟨rfl, rfl⟩
theorem cmp_101 (x y : Nat) (w : World) : Calls Try.prog 13 #[.int .i64 101, .float .f64 x, .float .f64 y] w fun e w' => e = .returned (.bool (ordB x y .lt || ordB x y .eq)) ∧ w = w' := by
  go_enter Try.func13, Try.ntmps13
  go_wp2
  go_ret
  exact ⟨rfl, rfl⟩
theorem do_101 (a b : Int) (w : World) : Calls Try.prog 7 #[.int .i64 101, .int .u64 a, .int .u64 b] w fun e w' => e = .returned (.tuple #[.int .u64 (yesI (ordB a.toNat b.toNat .lt || ordB a.toNat b.toNat .eq)), .int .i64 0]) ∧ w = w' := by
  have h1 := fun n w => call10 n w
  go_enter Try.func7, Try.ntmps7
  go_wp2_with (first | (go_at_call 11; refine (is_101 _).mono ?_; rintro e w' ⟨rfl, rfl⟩) | (go_at_call 13; refine (cmp_101 _ _ _).mono ?_; rintro e w' ⟨rfl, rfl⟩) | (go_at_call 12; refine (truth_any _ _).mono ?_; rintro e w' ⟨rfl, rfl⟩))
  go_ret2
  exact ⟨rfl, rfl⟩
theorem cmp_102 (x y : Nat) (w : World) : Calls Try.prog 13 #[.int .i64 102, .float .f64 x, .float .f64 y] w fun e w' => e = .returned (.bool (ordB x y .gt || ordB x y .eq)) ∧ w = w' := by
  go_enter Try.func13, Try.ntmps13
  go_wp2
  go_ret
  exact ⟨rfl, rfl⟩
theorem do_102 (a b : Int) (w : World) : Calls Try.prog 7 #[.int .i64 102, .int .u64 a, .int .u64 b] w fun e w' => e = .returned (.tuple #[.int .u64 (yesI (ordB a.toNat b.toNat .gt || ordB a.toNat b.toNat .eq)), .int .i64 0]) ∧ w = w' := by
  have h1 := fun n w => call10 n w
  go_enter Try.func7, Try.ntmps7
  go_wp2_with (first | (go_at_call 11; refine (is_102 _).mono ?_; rintro e w' ⟨rfl, rfl⟩) | (go_at_call 13; refine (cmp_102 _ _ _).mono ?_; rintro e w' ⟨rfl, rfl⟩) | (go_at_call 12; refine (truth_any _ _).mono ?_; rintro e w' ⟨rfl, rfl⟩))
  go_ret2
  exact ⟨rfl, rfl⟩
theorem do_153 (a b : Int) (w : World) : Calls Try.prog 7 #[.int .i64 153, .int .u64 a, .int .u64 b] w fun e w' => e = .returned (.tuple #[.int .u64 (bits .andNot .u64 a 9223372036854775808), .int .i64 0]) ∧ w = w' := by
  have h1 := fun n w => call10 n w
  go_enter Try.func7, Try.ntmps7
  go_wp2_with (first | (go_at_call 11; refine (is_153 _).mono ?_; rintro e w' ⟨rfl, rfl⟩))
  go_ret2
  exact ⟨rfl, rfl⟩
theorem do_154 (a b : Int) (w : World) : Calls Try.prog 7 #[.int .i64 154, .int .u64 a, .int .u64 b] w fun e w' => e = .returned (.tuple #[.int .u64 (bits .xor .u64 a 9223372036854775808), .int .i64 0]) ∧ w = w' := by
  have h1 := fun n w => call10 n w
  go_enter Try.func7, Try.ntmps7
  go_wp2_with (first | (go_at_call 11; refine (is_154 _).mono ?_; rintro e w' ⟨rfl, rfl⟩))
  go_ret2
  exact ⟨rfl, rfl⟩
theorem do_166 (a b : Int) (w : World) : Calls Try.prog 7 #[.int .i64 166, .int .u64 a, .int .u64 b] w fun e w' => e = .returned (.tuple #[.int .u64 (bits .or .u64 (bits .andNot .u64 a 9223372036854775808) (bits .and .u64 b 9223372036854775808)), .int .i64 0]) ∧ w = w' := by
  have h1 := fun n w => call10 n w
  go_enter Try.func7, Try.ntmps7
  go_wp2_with (first | (go_at_call 11; refine (is_166 _).mono ?_; rintro e w' ⟨rfl, rfl⟩))
  go_ret2
  exact ⟨rfl, rfl⟩
/-- An end of Do: a number and no trap, some draws made. -/
def DoEnd (v : Int) (w : World) (e : Ending) (w' : World) : Prop := e = .returned (.tuple #[.int .u64 v, .int .i64 0]) ∧ ∃ n, w' = w.drewN n
theorem do_155 (a b : Int) (w : World) (h : nanB a.toNat = false) (hv : nanB (flr .up a.toNat) = false) : Calls Try.prog 7 #[.int .i64 155, .int .u64 a, .int .u64 b] w (DoEnd (flr .up a.toNat) w) := by
  have h1 := fun n w => call10 n w
  have H := Lib.hid h; clear h
  have Hv := Lib.hid hv; clear hv
  go_enter Try.func7, Try.ntmps7
  go_wp2_with (first | (go_at_call 11; refine (is_155 _).mono ?_; rintro e w' ⟨rfl, rfl⟩) | (go_at_call 15; refine (reck_up _ H.out).mono ?_; rintro e w' ⟨rfl, rfl⟩) | (go_at_call 14; refine (bits_num _ Hv.out).mono ?_; rintro e w' ⟨rfl, rfl⟩))
  go_ret2
  exact ⟨rfl, 0, rfl⟩
theorem do_155_nan (a b : Int) (w : World) (h : nanB a.toNat = true) : Calls Try.prog 7 #[.int .i64 155, .int .u64 a, .int .u64 b] w (DoEnd 9221120237041090560 w) := by
  have h1 := fun n w => call10 n w
  have H := Lib.hid h; clear h
  go_enter Try.func7, Try.ntmps7
  go_wp2_with (first | (go_at_call 11; refine (is_155 _).mono ?_; rintro e w' ⟨rfl, rfl⟩) | (go_at_call 15; refine (reck_up_nan _ H.out).mono ?_; rintro e w' ⟨c, n, hc, rfl, rfl⟩; have Hc := Lib.hid hc; clear hc) | (go_at_call 14; refine (bits_nan _ Hc.out).mono ?_; rintro e w' ⟨rfl, rfl⟩))
  go_ret2
  exact ⟨rfl, _, rfl⟩
theorem do_156 (a b : Int) (w : World) (h : nanB a.toNat = false) (hv : nanB (flr .down a.toNat) = false) : Calls Try.prog 7 #[.int .i64 156, .int .u64 a, .int .u64 b] w (DoEnd (flr .down a.toNat) w) := by
  have h1 := fun n w => call10 n w
  have H := Lib.hid h; clear h
  have Hv := Lib.hid hv; clear hv
  go_enter Try.func7, Try.ntmps7
  go_wp2_with (first | (go_at_call 11; refine (is_156 _).mono ?_; rintro e w' ⟨rfl, rfl⟩) | (go_at_call 15; refine (reck_down _ H.out).mono ?_; rintro e w' ⟨rfl, rfl⟩) | (go_at_call 14; refine (bits_num _ Hv.out).mono ?_; rintro e w' ⟨rfl, rfl⟩))
  go_ret2
  exact ⟨rfl, 0, rfl⟩
theorem do_156_nan (a b : Int) (w : World) (h : nanB a.toNat = true) : Calls Try.prog 7 #[.int .i64 156, .int .u64 a, .int .u64 b] w (DoEnd 9221120237041090560 w) := by
  have h1 := fun n w => call10 n w
  have H := Lib.hid h; clear h
  go_enter Try.func7, Try.ntmps7
  go_wp2_with (first | (go_at_call 11; refine (is_156 _).mono ?_; rintro e w' ⟨rfl, rfl⟩) | (go_at_call 15; refine (reck_down_nan _ H.out).mono ?_; rintro e w' ⟨c, n, hc, rfl, rfl⟩; have Hc := Lib.hid hc; clear hc) | (go_at_call 14; refine (bits_nan _ Hc.out).mono ?_; rintro e w' ⟨rfl, rfl⟩))
  go_ret2
  exact ⟨rfl, _, rfl⟩
theorem do_157 (a b : Int) (w : World) (h : nanB a.toNat = false) (hv : nanB (flr .zero a.toNat) = false) : Calls Try.prog 7 #[.int .i64 157, .int .u64 a, .int .u64 b] w (DoEnd (flr .zero a.toNat) w) := by
  have h1 := fun n w => call10 n w
  have H := Lib.hid h; clear h
  have Hv := Lib.hid hv; clear hv
  go_enter Try.func7, Try.ntmps7
  go_wp2_with (first | (go_at_call 11; refine (is_157 _).mono ?_; rintro e w' ⟨rfl, rfl⟩) | (go_at_call 15; refine (reck_zero _ H.out).mono ?_; rintro e w' ⟨rfl, rfl⟩) | (go_at_call 14; refine (bits_num _ Hv.out).mono ?_; rintro e w' ⟨rfl, rfl⟩))
  go_ret2
  exact ⟨rfl, 0, rfl⟩
theorem do_157_nan (a b : Int) (w : World) (h : nanB a.toNat = true) : Calls Try.prog 7 #[.int .i64 157, .int .u64 a, .int .u64 b] w (DoEnd 9221120237041090560 w) := by
  have h1 := fun n w => call10 n w
  have H := Lib.hid h; clear h
  go_enter Try.func7, Try.ntmps7
  go_wp2_with (first | (go_at_call 11; refine (is_157 _).mono ?_; rintro e w' ⟨rfl, rfl⟩) | (go_at_call 15; refine (reck_zero_nan _ H.out).mono ?_; rintro e w' ⟨c, n, hc, rfl, rfl⟩; have Hc := Lib.hid hc; clear hc) | (go_at_call 14; refine (bits_nan _ Hc.out).mono ?_; rintro e w' ⟨rfl, rfl⟩))
  go_ret2
  exact ⟨rfl, _, rfl⟩
theorem do_158 (a b : Int) (w : World) (h : nanB a.toNat = false) (hv : nanB (flr .even a.toNat) = false) : Calls Try.prog 7 #[.int .i64 158, .int .u64 a, .int .u64 b] w (DoEnd (flr .even a.toNat) w) := by
  have h1 := fun n w => call10 n w
  have H := Lib.hid h; clear h
  have Hv := Lib.hid hv; clear hv
  go_enter Try.func7, Try.ntmps7
  go_wp2_with (first | (go_at_call 11; refine (is_158 _).mono ?_; rintro e w' ⟨rfl, rfl⟩) | (go_at_call 15; refine (reck_even _ H.out).mono ?_; rintro e w' ⟨rfl, rfl⟩) | (go_at_call 14; refine (bits_num _ Hv.out).mono ?_; rintro e w' ⟨rfl, rfl⟩))
  go_ret2
  exact ⟨rfl, 0, rfl⟩
theorem do_158_nan (a b : Int) (w : World) (h : nanB a.toNat = true) : Calls Try.prog 7 #[.int .i64 158, .int .u64 a, .int .u64 b] w (DoEnd 9221120237041090560 w) := by
  have h1 := fun n w => call10 n w
  have H := Lib.hid h; clear h
  go_enter Try.func7, Try.ntmps7
  go_wp2_with (first | (go_at_call 11; refine (is_158 _).mono ?_; rintro e w' ⟨rfl, rfl⟩) | (go_at_call 15; refine (reck_even_nan _ H.out).mono ?_; rintro e w' ⟨c, n, hc, rfl, rfl⟩; have Hc := Lib.hid hc; clear hc) | (go_at_call 14; refine (bits_nan _ Hc.out).mono ?_; rintro e w' ⟨rfl, rfl⟩))
  go_ret2
  exact ⟨rfl, _, rfl⟩
theorem do_160 (a b : Int) (r : Nat) (w : World) (h : Ieee.double.add a.toNat b.toNat = some r) (hv : nanB r = false) : Calls Try.prog 7 #[.int .i64 160, .int .u64 a, .int .u64 b] w (DoEnd r w) := by
  have h1 := fun n w => call10 n w
  have H := Lib.hid h; clear h
  have Hv := Lib.hid hv; clear hv
  go_enter Try.func7, Try.ntmps7
  go_wp2_with (first | (go_at_call 11; refine (is_160 _).mono ?_; rintro e w' ⟨rfl, rfl⟩) | (go_at_call 15; refine (reck_add _ H.out).mono ?_; rintro e w' ⟨rfl, rfl⟩) | (go_at_call 14; refine (bits_num _ Hv.out).mono ?_; rintro e w' ⟨rfl, rfl⟩))
  go_ret2
  exact ⟨rfl, 0, rfl⟩
theorem do_160_nan (a b : Int) (w : World) (h : Ieee.double.add a.toNat b.toNat = none) : Calls Try.prog 7 #[.int .i64 160, .int .u64 a, .int .u64 b] w (DoEnd 9221120237041090560 w) := by
  have h1 := fun n w => call10 n w
  have H := Lib.hid h; clear h
  go_enter Try.func7, Try.ntmps7
  go_wp2_with (first | (go_at_call 11; refine (is_160 _).mono ?_; rintro e w' ⟨rfl, rfl⟩) | (go_at_call 15; refine (reck_add_nan _ H.out).mono ?_; rintro e w' ⟨c, n, hc, rfl, rfl⟩; have Hc := Lib.hid hc; clear hc) | (go_at_call 14; refine (bits_nan _ Hc.out).mono ?_; rintro e w' ⟨rfl, rfl⟩))
  go_ret2
  exact ⟨rfl, _, rfl⟩
theorem do_161 (a b : Int) (r : Nat) (w : World) (h : Ieee.double.sub a.toNat b.toNat = some r) (hv : nanB r = false) : Calls Try.prog 7 #[.int .i64 161, .int .u64 a, .int .u64 b] w (DoEnd r w) := by
  have h1 := fun n w => call10 n w
  have H := Lib.hid h; clear h
  have Hv := Lib.hid hv; clear hv
  go_enter Try.func7, Try.ntmps7
  go_wp2_with (first | (go_at_call 11; refine (is_161 _).mono ?_; rintro e w' ⟨rfl, rfl⟩) | (go_at_call 15; refine (reck_sub _ H.out).mono ?_; rintro e w' ⟨rfl, rfl⟩) | (go_at_call 14; refine (bits_num _ Hv.out).mono ?_; rintro e w' ⟨rfl, rfl⟩))
  go_ret2
  exact ⟨rfl, 0, rfl⟩
theorem do_161_nan (a b : Int) (w : World) (h : Ieee.double.sub a.toNat b.toNat = none) : Calls Try.prog 7 #[.int .i64 161, .int .u64 a, .int .u64 b] w (DoEnd 9221120237041090560 w) := by
  have h1 := fun n w => call10 n w
  have H := Lib.hid h; clear h
  go_enter Try.func7, Try.ntmps7
  go_wp2_with (first | (go_at_call 11; refine (is_161 _).mono ?_; rintro e w' ⟨rfl, rfl⟩) | (go_at_call 15; refine (reck_sub_nan _ H.out).mono ?_; rintro e w' ⟨c, n, hc, rfl, rfl⟩; have Hc := Lib.hid hc; clear hc) | (go_at_call 14; refine (bits_nan _ Hc.out).mono ?_; rintro e w' ⟨rfl, rfl⟩))
  go_ret2
  exact ⟨rfl, _, rfl⟩
theorem do_162 (a b : Int) (r : Nat) (w : World) (h : Ieee.double.mul a.toNat b.toNat = some r) (hv : nanB r = false) : Calls Try.prog 7 #[.int .i64 162, .int .u64 a, .int .u64 b] w (DoEnd r w) := by
  have h1 := fun n w => call10 n w
  have H := Lib.hid h; clear h
  have Hv := Lib.hid hv; clear hv
  go_enter Try.func7, Try.ntmps7
  go_wp2_with (first | (go_at_call 11; refine (is_162 _).mono ?_; rintro e w' ⟨rfl, rfl⟩) | (go_at_call 15; refine (reck_mul _ H.out).mono ?_; rintro e w' ⟨rfl, rfl⟩) | (go_at_call 14; refine (bits_num _ Hv.out).mono ?_; rintro e w' ⟨rfl, rfl⟩))
  go_ret2
  exact ⟨rfl, 0, rfl⟩
theorem do_162_nan (a b : Int) (w : World) (h : Ieee.double.mul a.toNat b.toNat = none) : Calls Try.prog 7 #[.int .i64 162, .int .u64 a, .int .u64 b] w (DoEnd 9221120237041090560 w) := by
  have h1 := fun n w => call10 n w
  have H := Lib.hid h; clear h
  go_enter Try.func7, Try.ntmps7
  go_wp2_with (first | (go_at_call 11; refine (is_162 _).mono ?_; rintro e w' ⟨rfl, rfl⟩) | (go_at_call 15; refine (reck_mul_nan _ H.out).mono ?_; rintro e w' ⟨c, n, hc, rfl, rfl⟩; have Hc := Lib.hid hc; clear hc) | (go_at_call 14; refine (bits_nan _ Hc.out).mono ?_; rintro e w' ⟨rfl, rfl⟩))
  go_ret2
  exact ⟨rfl, _, rfl⟩
theorem do_163 (a b : Int) (r : Nat) (w : World) (h : Ieee.double.div a.toNat b.toNat = some r) (hv : nanB r = false) : Calls Try.prog 7 #[.int .i64 163, .int .u64 a, .int .u64 b] w (DoEnd r w) := by
  have h1 := fun n w => call10 n w
  have H := Lib.hid h; clear h
  have Hv := Lib.hid hv; clear hv
  go_enter Try.func7, Try.ntmps7
  go_wp2_with (first | (go_at_call 11; refine (is_163 _).mono ?_; rintro e w' ⟨rfl, rfl⟩) | (go_at_call 15; refine (reck_quo _ H.out).mono ?_; rintro e w' ⟨rfl, rfl⟩) | (go_at_call 14; refine (bits_num _ Hv.out).mono ?_; rintro e w' ⟨rfl, rfl⟩))
  go_ret2
  exact ⟨rfl, 0, rfl⟩
theorem do_163_nan (a b : Int) (w : World) (h : Ieee.double.div a.toNat b.toNat = none) : Calls Try.prog 7 #[.int .i64 163, .int .u64 a, .int .u64 b] w (DoEnd 9221120237041090560 w) := by
  have h1 := fun n w => call10 n w
  have H := Lib.hid h; clear h
  go_enter Try.func7, Try.ntmps7
  go_wp2_with (first | (go_at_call 11; refine (is_163 _).mono ?_; rintro e w' ⟨rfl, rfl⟩) | (go_at_call 15; refine (reck_quo_nan _ H.out).mono ?_; rintro e w' ⟨c, n, hc, rfl, rfl⟩; have Hc := Lib.hid hc; clear hc) | (go_at_call 14; refine (bits_nan _ Hc.out).mono ?_; rintro e w' ⟨rfl, rfl⟩))
  go_ret2
  exact ⟨rfl, _, rfl⟩
theorem pick_164_lt (x y : Nat) (w : World) (hx : nanB x = false) (hy : nanB y = false) (ho : FloatKind.f64.format.order x y = some .lt) : Calls Try.prog 25 #[.int .i64 164, .float .f64 x, .float .f64 y] w fun e w' => e = .returned (.float .f64 x) ∧ w = w' := by
  have flt : (FloatKind.f64.format.order x y == some .lt) = true := by rw [ho]; rfl
  have fgt : (FloatKind.f64.format.order x y == some .gt) = false := by rw [ho]; rfl
  have feq : (FloatKind.f64.format.order x y == some .eq) = false := by rw [ho]; rfl
  clear ho
  go_enter Try.func25, Try.ntmps25
  go_wp2_with (first | (go_at_call 19; refine (isNaN_any _ _).mono ?_; rintro e w' ⟨rfl, rfl⟩) | (go_at_call 38; refine (sign_any _ _).mono ?_; rintro e w' ⟨rfl, rfl⟩))
  go_ret
  exact ⟨rfl, rfl⟩
theorem reck_164_lt (x y : Nat) (w : World) (hx : nanB x = false) (hy : nanB y = false) (ho : FloatKind.f64.format.order x y = some .lt) : Calls Try.prog 15 #[.int .i64 164, .float .f64 x, .float .f64 y] w fun e w' => e = .returned (.float .f64 x) ∧ w = w' := by
  have H := Lib.hid (pick_164_lt x y w hx hy ho); clear hx hy ho
  go_enter Try.func15, Try.ntmps15
  go_wp2_with (first | (go_at_call 25; refine H.out.mono ?_; rintro e w' ⟨rfl, rfl⟩))
  go_ret
  exact ⟨rfl, rfl⟩
theorem do_164_lt (a b : Int) (w : World) (hx : nanB a.toNat = false) (hy : nanB b.toNat = false) (ho : FloatKind.f64.format.order a.toNat b.toNat = some .lt) : Calls Try.prog 7 #[.int .i64 164, .int .u64 a, .int .u64 b] w (DoEnd (max a 0) w) := by
  have h1 := fun n w => call10 n w
  have H := fun w => Lib.hid (reck_164_lt a.toNat b.toNat w hx hy ho)
  have Hv := Lib.hid hx; clear hx hy ho
  go_enter Try.func7, Try.ntmps7
  go_wp2_with (first | (go_at_call 11; refine (is_164 _).mono ?_; rintro e w' ⟨rfl, rfl⟩) | (go_at_call 15; refine (H _).out.mono ?_; rintro e w' ⟨rfl, rfl⟩) | (go_at_call 14; refine (bits_num _ Hv.out).mono ?_; rintro e w' ⟨rfl, rfl⟩))
  go_ret2
  exact ⟨rfl, 0, rfl⟩
theorem pick_164_gt (x y : Nat) (w : World) (hx : nanB x = false) (hy : nanB y = false) (ho : FloatKind.f64.format.order x y = some .gt) : Calls Try.prog 25 #[.int .i64 164, .float .f64 x, .float .f64 y] w fun e w' => e = .returned (.float .f64 y) ∧ w = w' := by
  have flt : (FloatKind.f64.format.order x y == some .lt) = false := by rw [ho]; rfl
  have fgt : (FloatKind.f64.format.order x y == some .gt) = true := by rw [ho]; rfl
  have feq : (FloatKind.f64.format.order x y == some .eq) = false := by rw [ho]; rfl
  clear ho
  go_enter Try.func25, Try.ntmps25
  go_wp2_with (first | (go_at_call 19; refine (isNaN_any _ _).mono ?_; rintro e w' ⟨rfl, rfl⟩) | (go_at_call 38; refine (sign_any _ _).mono ?_; rintro e w' ⟨rfl, rfl⟩))
  go_ret
  exact ⟨rfl, rfl⟩
theorem reck_164_gt (x y : Nat) (w : World) (hx : nanB x = false) (hy : nanB y = false) (ho : FloatKind.f64.format.order x y = some .gt) : Calls Try.prog 15 #[.int .i64 164, .float .f64 x, .float .f64 y] w fun e w' => e = .returned (.float .f64 y) ∧ w = w' := by
  have H := Lib.hid (pick_164_gt x y w hx hy ho); clear hx hy ho
  go_enter Try.func15, Try.ntmps15
  go_wp2_with (first | (go_at_call 25; refine H.out.mono ?_; rintro e w' ⟨rfl, rfl⟩))
  go_ret
  exact ⟨rfl, rfl⟩
theorem do_164_gt (a b : Int) (w : World) (hx : nanB a.toNat = false) (hy : nanB b.toNat = false) (ho : FloatKind.f64.format.order a.toNat b.toNat = some .gt) : Calls Try.prog 7 #[.int .i64 164, .int .u64 a, .int .u64 b] w (DoEnd (max b 0) w) := by
  have h1 := fun n w => call10 n w
  have H := fun w => Lib.hid (reck_164_gt a.toNat b.toNat w hx hy ho)
  have Hv := Lib.hid hy; clear hx hy ho
  go_enter Try.func7, Try.ntmps7
  go_wp2_with (first | (go_at_call 11; refine (is_164 _).mono ?_; rintro e w' ⟨rfl, rfl⟩) | (go_at_call 15; refine (H _).out.mono ?_; rintro e w' ⟨rfl, rfl⟩) | (go_at_call 14; refine (bits_num _ Hv.out).mono ?_; rintro e w' ⟨rfl, rfl⟩))
  go_ret2
  exact ⟨rfl, 0, rfl⟩
theorem pick_164_eqs (x y : Nat) (w : World) (hx : nanB x = false) (hy : nanB y = false) (ho : FloatKind.f64.format.order x y = some .eq) (hs : sgnB x = true) : Calls Try.prog 25 #[.int .i64 164, .float .f64 x, .float .f64 y] w fun e w' => e = .returned (.float .f64 x) ∧ w = w' := by
  have flt : (FloatKind.f64.format.order x y == some .lt) = false := by rw [ho]; rfl
  have fgt : (FloatKind.f64.format.order x y == some .gt) = false := by rw [ho]; rfl
  have feq : (FloatKind.f64.format.order x y == some .eq) = true := by rw [ho]; rfl
  have fb : (sgnB x == true) = true := by rw [hs]; rfl
  clear ho
  go_enter Try.func25, Try.ntmps25
  go_wp2_with (first | (go_at_call 19; refine (isNaN_any _ _).mono ?_; rintro e w' ⟨rfl, rfl⟩) | (go_at_call 38; refine (sign_any _ _).mono ?_; rintro e w' ⟨rfl, rfl⟩))
  go_ret
  exact ⟨rfl, rfl⟩
theorem reck_164_eqs (x y : Nat) (w : World) (hx : nanB x = false) (hy : nanB y = false) (ho : FloatKind.f64.format.order x y = some .eq) (hs : sgnB x = true) : Calls Try.prog 15 #[.int .i64 164, .float .f64 x, .float .f64 y] w fun e w' => e = .returned (.float .f64 x) ∧ w = w' := by
  have H := Lib.hid (pick_164_eqs x y w hx hy ho hs); clear hx hy ho hs
  go_enter Try.func15, Try.ntmps15
  go_wp2_with (first | (go_at_call 25; refine H.out.mono ?_; rintro e w' ⟨rfl, rfl⟩))
  go_ret
  exact ⟨rfl, rfl⟩
theorem do_164_eqs (a b : Int) (w : World) (hx : nanB a.toNat = false) (hy : nanB b.toNat = false) (ho : FloatKind.f64.format.order a.toNat b.toNat = some .eq) (hs : sgnB a.toNat = true) : Calls Try.prog 7 #[.int .i64 164, .int .u64 a, .int .u64 b] w (DoEnd (max a 0) w) := by
  have h1 := fun n w => call10 n w
  have H := fun w => Lib.hid (reck_164_eqs a.toNat b.toNat w hx hy ho hs)
  have Hv := Lib.hid hx; clear hx hy ho hs
  go_enter Try.func7, Try.ntmps7
  go_wp2_with (first | (go_at_call 11; refine (is_164 _).mono ?_; rintro e w' ⟨rfl, rfl⟩) | (go_at_call 15; refine (H _).out.mono ?_; rintro e w' ⟨rfl, rfl⟩) | (go_at_call 14; refine (bits_num _ Hv.out).mono ?_; rintro e w' ⟨rfl, rfl⟩))
  go_ret2
  exact ⟨rfl, 0, rfl⟩
theorem pick_164_eqn (x y : Nat) (w : World) (hx : nanB x = false) (hy : nanB y = false) (ho : FloatKind.f64.format.order x y = some .eq) (hs : sgnB x = false) : Calls Try.prog 25 #[.int .i64 164, .float .f64 x, .float .f64 y] w fun e w' => e = .returned (.float .f64 y) ∧ w = w' := by
  have flt : (FloatKind.f64.format.order x y == some .lt) = false := by rw [ho]; rfl
  have fgt : (FloatKind.f64.format.order x y == some .gt) = false := by rw [ho]; rfl
  have feq : (FloatKind.f64.format.order x y == some .eq) = true := by rw [ho]; rfl
  have fb : (sgnB x == true) = false := by rw [hs]; rfl
  clear ho
  go_enter Try.func25, Try.ntmps25
  go_wp2_with (first | (go_at_call 19; refine (isNaN_any _ _).mono ?_; rintro e w' ⟨rfl, rfl⟩) | (go_at_call 38; refine (sign_any _ _).mono ?_; rintro e w' ⟨rfl, rfl⟩))
  go_ret
  exact ⟨rfl, rfl⟩
theorem reck_164_eqn (x y : Nat) (w : World) (hx : nanB x = false) (hy : nanB y = false) (ho : FloatKind.f64.format.order x y = some .eq) (hs : sgnB x = false) : Calls Try.prog 15 #[.int .i64 164, .float .f64 x, .float .f64 y] w fun e w' => e = .returned (.float .f64 y) ∧ w = w' := by
  have H := Lib.hid (pick_164_eqn x y w hx hy ho hs); clear hx hy ho hs
  go_enter Try.func15, Try.ntmps15
  go_wp2_with (first | (go_at_call 25; refine H.out.mono ?_; rintro e w' ⟨rfl, rfl⟩))
  go_ret
  exact ⟨rfl, rfl⟩
theorem do_164_eqn (a b : Int) (w : World) (hx : nanB a.toNat = false) (hy : nanB b.toNat = false) (ho : FloatKind.f64.format.order a.toNat b.toNat = some .eq) (hs : sgnB a.toNat = false) : Calls Try.prog 7 #[.int .i64 164, .int .u64 a, .int .u64 b] w (DoEnd (max b 0) w) := by
  have h1 := fun n w => call10 n w
  have H := fun w => Lib.hid (reck_164_eqn a.toNat b.toNat w hx hy ho hs)
  have Hv := Lib.hid hy; clear hx hy ho hs
  go_enter Try.func7, Try.ntmps7
  go_wp2_with (first | (go_at_call 11; refine (is_164 _).mono ?_; rintro e w' ⟨rfl, rfl⟩) | (go_at_call 15; refine (H _).out.mono ?_; rintro e w' ⟨rfl, rfl⟩) | (go_at_call 14; refine (bits_num _ Hv.out).mono ?_; rintro e w' ⟨rfl, rfl⟩))
  go_ret2
  exact ⟨rfl, 0, rfl⟩
theorem pick_165_lt (x y : Nat) (w : World) (hx : nanB x = false) (hy : nanB y = false) (ho : FloatKind.f64.format.order x y = some .lt) : Calls Try.prog 25 #[.int .i64 165, .float .f64 x, .float .f64 y] w fun e w' => e = .returned (.float .f64 y) ∧ w = w' := by
  have flt : (FloatKind.f64.format.order x y == some .lt) = true := by rw [ho]; rfl
  have fgt : (FloatKind.f64.format.order x y == some .gt) = false := by rw [ho]; rfl
  have feq : (FloatKind.f64.format.order x y == some .eq) = false := by rw [ho]; rfl
  clear ho
  go_enter Try.func25, Try.ntmps25
  go_wp2_with (first | (go_at_call 19; refine (isNaN_any _ _).mono ?_; rintro e w' ⟨rfl, rfl⟩) | (go_at_call 38; refine (sign_any _ _).mono ?_; rintro e w' ⟨rfl, rfl⟩))
  go_ret
  exact ⟨rfl, rfl⟩
theorem reck_165_lt (x y : Nat) (w : World) (hx : nanB x = false) (hy : nanB y = false) (ho : FloatKind.f64.format.order x y = some .lt) : Calls Try.prog 15 #[.int .i64 165, .float .f64 x, .float .f64 y] w fun e w' => e = .returned (.float .f64 y) ∧ w = w' := by
  have H := Lib.hid (pick_165_lt x y w hx hy ho); clear hx hy ho
  go_enter Try.func15, Try.ntmps15
  go_wp2_with (first | (go_at_call 25; refine H.out.mono ?_; rintro e w' ⟨rfl, rfl⟩))
  go_ret
  exact ⟨rfl, rfl⟩
theorem do_165_lt (a b : Int) (w : World) (hx : nanB a.toNat = false) (hy : nanB b.toNat = false) (ho : FloatKind.f64.format.order a.toNat b.toNat = some .lt) : Calls Try.prog 7 #[.int .i64 165, .int .u64 a, .int .u64 b] w (DoEnd (max b 0) w) := by
  have h1 := fun n w => call10 n w
  have H := fun w => Lib.hid (reck_165_lt a.toNat b.toNat w hx hy ho)
  have Hv := Lib.hid hy; clear hx hy ho
  go_enter Try.func7, Try.ntmps7
  go_wp2_with (first | (go_at_call 11; refine (is_165 _).mono ?_; rintro e w' ⟨rfl, rfl⟩) | (go_at_call 15; refine (H _).out.mono ?_; rintro e w' ⟨rfl, rfl⟩) | (go_at_call 14; refine (bits_num _ Hv.out).mono ?_; rintro e w' ⟨rfl, rfl⟩))
  go_ret2
  exact ⟨rfl, 0, rfl⟩
theorem pick_165_gt (x y : Nat) (w : World) (hx : nanB x = false) (hy : nanB y = false) (ho : FloatKind.f64.format.order x y = some .gt) : Calls Try.prog 25 #[.int .i64 165, .float .f64 x, .float .f64 y] w fun e w' => e = .returned (.float .f64 x) ∧ w = w' := by
  have flt : (FloatKind.f64.format.order x y == some .lt) = false := by rw [ho]; rfl
  have fgt : (FloatKind.f64.format.order x y == some .gt) = true := by rw [ho]; rfl
  have feq : (FloatKind.f64.format.order x y == some .eq) = false := by rw [ho]; rfl
  clear ho
  go_enter Try.func25, Try.ntmps25
  go_wp2_with (first | (go_at_call 19; refine (isNaN_any _ _).mono ?_; rintro e w' ⟨rfl, rfl⟩) | (go_at_call 38; refine (sign_any _ _).mono ?_; rintro e w' ⟨rfl, rfl⟩))
  go_ret
  exact ⟨rfl, rfl⟩
theorem reck_165_gt (x y : Nat) (w : World) (hx : nanB x = false) (hy : nanB y = false) (ho : FloatKind.f64.format.order x y = some .gt) : Calls Try.prog 15 #[.int .i64 165, .float .f64 x, .float .f64 y] w fun e w' => e = .returned (.float .f64 x) ∧ w = w' := by
  have H := Lib.hid (pick_165_gt x y w hx hy ho); clear hx hy ho
  go_enter Try.func15, Try.ntmps15
  go_wp2_with (first | (go_at_call 25; refine H.out.mono ?_; rintro e w' ⟨rfl, rfl⟩))
  go_ret
  exact ⟨rfl, rfl⟩
theorem do_165_gt (a b : Int) (w : World) (hx : nanB a.toNat = false) (hy : nanB b.toNat = false) (ho : FloatKind.f64.format.order a.toNat b.toNat = some .gt) : Calls Try.prog 7 #[.int .i64 165, .int .u64 a, .int .u64 b] w (DoEnd (max a 0) w) := by
  have h1 := fun n w => call10 n w
  have H := fun w => Lib.hid (reck_165_gt a.toNat b.toNat w hx hy ho)
  have Hv := Lib.hid hx; clear hx hy ho
  go_enter Try.func7, Try.ntmps7
  go_wp2_with (first | (go_at_call 11; refine (is_165 _).mono ?_; rintro e w' ⟨rfl, rfl⟩) | (go_at_call 15; refine (H _).out.mono ?_; rintro e w' ⟨rfl, rfl⟩) | (go_at_call 14; refine (bits_num _ Hv.out).mono ?_; rintro e w' ⟨rfl, rfl⟩))
  go_ret2
  exact ⟨rfl, 0, rfl⟩
theorem pick_165_eqs (x y : Nat) (w : World) (hx : nanB x = false) (hy : nanB y = false) (ho : FloatKind.f64.format.order x y = some .eq) (hs : sgnB x = true) : Calls Try.prog 25 #[.int .i64 165, .float .f64 x, .float .f64 y] w fun e w' => e = .returned (.float .f64 y) ∧ w = w' := by
  have flt : (FloatKind.f64.format.order x y == some .lt) = false := by rw [ho]; rfl
  have fgt : (FloatKind.f64.format.order x y == some .gt) = false := by rw [ho]; rfl
  have feq : (FloatKind.f64.format.order x y == some .eq) = true := by rw [ho]; rfl
  have fb : (sgnB x == false) = false := by rw [hs]; rfl
  clear ho
  go_enter Try.func25, Try.ntmps25
  go_wp2_with (first | (go_at_call 19; refine (isNaN_any _ _).mono ?_; rintro e w' ⟨rfl, rfl⟩) | (go_at_call 38; refine (sign_any _ _).mono ?_; rintro e w' ⟨rfl, rfl⟩))
  go_ret
  exact ⟨rfl, rfl⟩
theorem reck_165_eqs (x y : Nat) (w : World) (hx : nanB x = false) (hy : nanB y = false) (ho : FloatKind.f64.format.order x y = some .eq) (hs : sgnB x = true) : Calls Try.prog 15 #[.int .i64 165, .float .f64 x, .float .f64 y] w fun e w' => e = .returned (.float .f64 y) ∧ w = w' := by
  have H := Lib.hid (pick_165_eqs x y w hx hy ho hs); clear hx hy ho hs
  go_enter Try.func15, Try.ntmps15
  go_wp2_with (first | (go_at_call 25; refine H.out.mono ?_; rintro e w' ⟨rfl, rfl⟩))
  go_ret
  exact ⟨rfl, rfl⟩
theorem do_165_eqs (a b : Int) (w : World) (hx : nanB a.toNat = false) (hy : nanB b.toNat = false) (ho : FloatKind.f64.format.order a.toNat b.toNat = some .eq) (hs : sgnB a.toNat = true) : Calls Try.prog 7 #[.int .i64 165, .int .u64 a, .int .u64 b] w (DoEnd (max b 0) w) := by
  have h1 := fun n w => call10 n w
  have H := fun w => Lib.hid (reck_165_eqs a.toNat b.toNat w hx hy ho hs)
  have Hv := Lib.hid hy; clear hx hy ho hs
  go_enter Try.func7, Try.ntmps7
  go_wp2_with (first | (go_at_call 11; refine (is_165 _).mono ?_; rintro e w' ⟨rfl, rfl⟩) | (go_at_call 15; refine (H _).out.mono ?_; rintro e w' ⟨rfl, rfl⟩) | (go_at_call 14; refine (bits_num _ Hv.out).mono ?_; rintro e w' ⟨rfl, rfl⟩))
  go_ret2
  exact ⟨rfl, 0, rfl⟩
theorem pick_165_eqn (x y : Nat) (w : World) (hx : nanB x = false) (hy : nanB y = false) (ho : FloatKind.f64.format.order x y = some .eq) (hs : sgnB x = false) : Calls Try.prog 25 #[.int .i64 165, .float .f64 x, .float .f64 y] w fun e w' => e = .returned (.float .f64 x) ∧ w = w' := by
  have flt : (FloatKind.f64.format.order x y == some .lt) = false := by rw [ho]; rfl
  have fgt : (FloatKind.f64.format.order x y == some .gt) = false := by rw [ho]; rfl
  have feq : (FloatKind.f64.format.order x y == some .eq) = true := by rw [ho]; rfl
  have fb : (sgnB x == false) = true := by rw [hs]; rfl
  clear ho
  go_enter Try.func25, Try.ntmps25
  go_wp2_with (first | (go_at_call 19; refine (isNaN_any _ _).mono ?_; rintro e w' ⟨rfl, rfl⟩) | (go_at_call 38; refine (sign_any _ _).mono ?_; rintro e w' ⟨rfl, rfl⟩))
  go_ret
  exact ⟨rfl, rfl⟩
theorem reck_165_eqn (x y : Nat) (w : World) (hx : nanB x = false) (hy : nanB y = false) (ho : FloatKind.f64.format.order x y = some .eq) (hs : sgnB x = false) : Calls Try.prog 15 #[.int .i64 165, .float .f64 x, .float .f64 y] w fun e w' => e = .returned (.float .f64 x) ∧ w = w' := by
  have H := Lib.hid (pick_165_eqn x y w hx hy ho hs); clear hx hy ho hs
  go_enter Try.func15, Try.ntmps15
  go_wp2_with (first | (go_at_call 25; refine H.out.mono ?_; rintro e w' ⟨rfl, rfl⟩))
  go_ret
  exact ⟨rfl, rfl⟩
theorem do_165_eqn (a b : Int) (w : World) (hx : nanB a.toNat = false) (hy : nanB b.toNat = false) (ho : FloatKind.f64.format.order a.toNat b.toNat = some .eq) (hs : sgnB a.toNat = false) : Calls Try.prog 7 #[.int .i64 165, .int .u64 a, .int .u64 b] w (DoEnd (max a 0) w) := by
  have h1 := fun n w => call10 n w
  have H := fun w => Lib.hid (reck_165_eqn a.toNat b.toNat w hx hy ho hs)
  have Hv := Lib.hid hx; clear hx hy ho hs
  go_enter Try.func7, Try.ntmps7
  go_wp2_with (first | (go_at_call 11; refine (is_165 _).mono ?_; rintro e w' ⟨rfl, rfl⟩) | (go_at_call 15; refine (H _).out.mono ?_; rintro e w' ⟨rfl, rfl⟩) | (go_at_call 14; refine (bits_num _ Hv.out).mono ?_; rintro e w' ⟨rfl, rfl⟩))
  go_ret2
  exact ⟨rfl, 0, rfl⟩
theorem mathNaN (w : World) : Calls Try.prog 37 #[] w fun e w' => e = .returned (.float .f64 9221120237041090561) ∧ w = w' := by
  have hc := fun n w => call10 n w
  go_enter Try.func37, Try.ntmps37
  go_wp2
  go_ret
  exact ⟨rfl, rfl⟩
theorem nan_nan : nanB 9221120237041090561 = true := nanB_nan (by decide)
theorem pick_164_nanx (x y : Nat) (w : World) (hx : nanB x = true) : Calls Try.prog 25 #[.int .i64 164, .float .f64 x, .float .f64 y] w fun e w' => e = .returned (.float .f64 9221120237041090561) ∧ w = w' := by
  go_enter Try.func25, Try.ntmps25
  go_wp2_with (first | (go_at_call 19; refine (isNaN_any _ _).mono ?_; rintro e w' ⟨rfl, rfl⟩) | (go_at_call 37; refine (mathNaN _).mono ?_; rintro e w' ⟨rfl, rfl⟩))
  go_ret
  exact ⟨rfl, rfl⟩
theorem reck_164_nanx (x y : Nat) (w : World) (hx : nanB x = true) : Calls Try.prog 15 #[.int .i64 164, .float .f64 x, .float .f64 y] w fun e w' => e = .returned (.float .f64 9221120237041090561) ∧ w = w' := by
  have H := Lib.hid (pick_164_nanx x y w hx); clear hx
  go_enter Try.func15, Try.ntmps15
  go_wp2_with (first | (go_at_call 25; refine H.out.mono ?_; rintro e w' ⟨rfl, rfl⟩))
  go_ret
  exact ⟨rfl, rfl⟩
theorem do_164_nanx (a b : Int) (w : World) (hx : nanB a.toNat = true) : Calls Try.prog 7 #[.int .i64 164, .int .u64 a, .int .u64 b] w (DoEnd 9221120237041090560 w) := by
  have h1 := fun n w => call10 n w
  have H := fun w => Lib.hid (reck_164_nanx a.toNat b.toNat w hx)
  clear hx
  go_enter Try.func7, Try.ntmps7
  go_wp2_with (first | (go_at_call 11; refine (is_164 _).mono ?_; rintro e w' ⟨rfl, rfl⟩) | (go_at_call 15; refine (H _).out.mono ?_; rintro e w' ⟨rfl, rfl⟩) | (go_at_call 14; refine (bits_nan _ nan_nan).mono ?_; rintro e w' ⟨rfl, rfl⟩))
  go_ret2
  exact ⟨rfl, 0, rfl⟩
theorem pick_164_nany (x y : Nat) (w : World) (hx : nanB x = false) (hy : nanB y = true) : Calls Try.prog 25 #[.int .i64 164, .float .f64 x, .float .f64 y] w fun e w' => e = .returned (.float .f64 9221120237041090561) ∧ w = w' := by
  go_enter Try.func25, Try.ntmps25
  go_wp2_with (first | (go_at_call 19; refine (isNaN_any _ _).mono ?_; rintro e w' ⟨rfl, rfl⟩) | (go_at_call 37; refine (mathNaN _).mono ?_; rintro e w' ⟨rfl, rfl⟩))
  go_ret
  exact ⟨rfl, rfl⟩
theorem reck_164_nany (x y : Nat) (w : World) (hx : nanB x = false) (hy : nanB y = true) : Calls Try.prog 15 #[.int .i64 164, .float .f64 x, .float .f64 y] w fun e w' => e = .returned (.float .f64 9221120237041090561) ∧ w = w' := by
  have H := Lib.hid (pick_164_nany x y w hx hy); clear hx hy
  go_enter Try.func15, Try.ntmps15
  go_wp2_with (first | (go_at_call 25; refine H.out.mono ?_; rintro e w' ⟨rfl, rfl⟩))
  go_ret
  exact ⟨rfl, rfl⟩
theorem do_164_nany (a b : Int) (w : World) (hx : nanB a.toNat = false) (hy : nanB b.toNat = true) : Calls Try.prog 7 #[.int .i64 164, .int .u64 a, .int .u64 b] w (DoEnd 9221120237041090560 w) := by
  have h1 := fun n w => call10 n w
  have H := fun w => Lib.hid (reck_164_nany a.toNat b.toNat w hx hy)
  clear hx hy
  go_enter Try.func7, Try.ntmps7
  go_wp2_with (first | (go_at_call 11; refine (is_164 _).mono ?_; rintro e w' ⟨rfl, rfl⟩) | (go_at_call 15; refine (H _).out.mono ?_; rintro e w' ⟨rfl, rfl⟩) | (go_at_call 14; refine (bits_nan _ nan_nan).mono ?_; rintro e w' ⟨rfl, rfl⟩))
  go_ret2
  exact ⟨rfl, 0, rfl⟩
theorem pick_165_nanx (x y : Nat) (w : World) (hx : nanB x = true) : Calls Try.prog 25 #[.int .i64 165, .float .f64 x, .float .f64 y] w fun e w' => e = .returned (.float .f64 9221120237041090561) ∧ w = w' := by
  go_enter Try.func25, Try.ntmps25
  go_wp2_with (first | (go_at_call 19; refine (isNaN_any _ _).mono ?_; rintro e w' ⟨rfl, rfl⟩) | (go_at_call 37; refine (mathNaN _).mono ?_; rintro e w' ⟨rfl, rfl⟩))
  go_ret
  exact ⟨rfl, rfl⟩
theorem reck_165_nanx (x y : Nat) (w : World) (hx : nanB x = true) : Calls Try.prog 15 #[.int .i64 165, .float .f64 x, .float .f64 y] w fun e w' => e = .returned (.float .f64 9221120237041090561) ∧ w = w' := by
  have H := Lib.hid (pick_165_nanx x y w hx); clear hx
  go_enter Try.func15, Try.ntmps15
  go_wp2_with (first | (go_at_call 25; refine H.out.mono ?_; rintro e w' ⟨rfl, rfl⟩))
  go_ret
  exact ⟨rfl, rfl⟩
theorem do_165_nanx (a b : Int) (w : World) (hx : nanB a.toNat = true) : Calls Try.prog 7 #[.int .i64 165, .int .u64 a, .int .u64 b] w (DoEnd 9221120237041090560 w) := by
  have h1 := fun n w => call10 n w
  have H := fun w => Lib.hid (reck_165_nanx a.toNat b.toNat w hx)
  clear hx
  go_enter Try.func7, Try.ntmps7
  go_wp2_with (first | (go_at_call 11; refine (is_165 _).mono ?_; rintro e w' ⟨rfl, rfl⟩) | (go_at_call 15; refine (H _).out.mono ?_; rintro e w' ⟨rfl, rfl⟩) | (go_at_call 14; refine (bits_nan _ nan_nan).mono ?_; rintro e w' ⟨rfl, rfl⟩))
  go_ret2
  exact ⟨rfl, 0, rfl⟩
theorem pick_165_nany (x y : Nat) (w : World) (hx : nanB x = false) (hy : nanB y = true) : Calls Try.prog 25 #[.int .i64 165, .float .f64 x, .float .f64 y] w fun e w' => e = .returned (.float .f64 9221120237041090561) ∧ w = w' := by
  go_enter Try.func25, Try.ntmps25
  go_wp2_with (first | (go_at_call 19; refine (isNaN_any _ _).mono ?_; rintro e w' ⟨rfl, rfl⟩) | (go_at_call 37; refine (mathNaN _).mono ?_; rintro e w' ⟨rfl, rfl⟩))
  go_ret
  exact ⟨rfl, rfl⟩
theorem reck_165_nany (x y : Nat) (w : World) (hx : nanB x = false) (hy : nanB y = true) : Calls Try.prog 15 #[.int .i64 165, .float .f64 x, .float .f64 y] w fun e w' => e = .returned (.float .f64 9221120237041090561) ∧ w = w' := by
  have H := Lib.hid (pick_165_nany x y w hx hy); clear hx hy
  go_enter Try.func15, Try.ntmps15
  go_wp2_with (first | (go_at_call 25; refine H.out.mono ?_; rintro e w' ⟨rfl, rfl⟩))
  go_ret
  exact ⟨rfl, rfl⟩
theorem do_165_nany (a b : Int) (w : World) (hx : nanB a.toNat = false) (hy : nanB b.toNat = true) : Calls Try.prog 7 #[.int .i64 165, .int .u64 a, .int .u64 b] w (DoEnd 9221120237041090560 w) := by
  have h1 := fun n w => call10 n w
  have H := fun w => Lib.hid (reck_165_nany a.toNat b.toNat w hx hy)
  clear hx hy
  go_enter Try.func7, Try.ntmps7
  go_wp2_with (first | (go_at_call 11; refine (is_165 _).mono ?_; rintro e w' ⟨rfl, rfl⟩) | (go_at_call 15; refine (H _).out.mono ?_; rintro e w' ⟨rfl, rfl⟩) | (go_at_call 14; refine (bits_nan _ nan_nan).mono ?_; rintro e w' ⟨rfl, rfl⟩))
  go_ret2
  exact ⟨rfl, 0, rfl⟩

end Go.Proofs.Ytdfjkollehhljaa
