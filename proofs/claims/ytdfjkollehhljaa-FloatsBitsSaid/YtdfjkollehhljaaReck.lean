/- The walk: what reckons with two numbers. -/
import Derived.Test.YtdfjkollehhljaaLeaf
import Derived.Deep.QuietTactic
import Derived.BigQuiet
namespace Go.Proofs.Ytdfjkollehhljaa
open Go.RowKit

theorem reck_up {x y : Nat} (w : World) (h : nanB x = false) : Calls Try.prog 15 #[.int .i64 155, .float .f64 x, .float .f64 y] w fun e w' => e = .returned (.float .f64 (flr .up x)) ∧ w = w' := by
  have H := Lib.hid h; clear h
  go_enter Try.func15, Try.ntmps15
  go_wp2_with (go_at_call 20; refine (ceil_num _ H.out).mono ?_; rintro e w' ⟨rfl, rfl⟩)
  go_ret
  exact ⟨rfl, rfl⟩
theorem reck_up_nan {x y : Nat} (w : World) (h : nanB x = true) : Calls Try.prog 15 #[.int .i64 155, .float .f64 x, .float .f64 y] w (NanEnd w) := by
  have H := Lib.hid h; clear h
  go_enter Try.func15, Try.ntmps15
  go_wp2_with (go_at_call 20; refine (ceil_nan _ H.out).mono ?_; rintro e w' ⟨b, n, hb, rfl, rfl⟩; have Hb := Lib.hid hb; clear hb)
  go_ret
  exact ⟨b, n, Hb.out, rfl, rfl⟩
theorem reck_down {x y : Nat} (w : World) (h : nanB x = false) : Calls Try.prog 15 #[.int .i64 156, .float .f64 x, .float .f64 y] w fun e w' => e = .returned (.float .f64 (flr .down x)) ∧ w = w' := by
  have H := Lib.hid h; clear h
  go_enter Try.func15, Try.ntmps15
  go_wp2_with (go_at_call 21; refine (floor_num _ H.out).mono ?_; rintro e w' ⟨rfl, rfl⟩)
  go_ret
  exact ⟨rfl, rfl⟩
theorem reck_down_nan {x y : Nat} (w : World) (h : nanB x = true) : Calls Try.prog 15 #[.int .i64 156, .float .f64 x, .float .f64 y] w (NanEnd w) := by
  have H := Lib.hid h; clear h
  go_enter Try.func15, Try.ntmps15
  go_wp2_with (go_at_call 21; refine (floor_nan _ H.out).mono ?_; rintro e w' ⟨b, n, hb, rfl, rfl⟩; have Hb := Lib.hid hb; clear hb)
  go_ret
  exact ⟨b, n, Hb.out, rfl, rfl⟩
theorem reck_zero {x y : Nat} (w : World) (h : nanB x = false) : Calls Try.prog 15 #[.int .i64 157, .float .f64 x, .float .f64 y] w fun e w' => e = .returned (.float .f64 (flr .zero x)) ∧ w = w' := by
  have H := Lib.hid h; clear h
  go_enter Try.func15, Try.ntmps15
  go_wp2_with (go_at_call 22; refine (trunc_num _ H.out).mono ?_; rintro e w' ⟨rfl, rfl⟩)
  go_ret
  exact ⟨rfl, rfl⟩
theorem reck_zero_nan {x y : Nat} (w : World) (h : nanB x = true) : Calls Try.prog 15 #[.int .i64 157, .float .f64 x, .float .f64 y] w (NanEnd w) := by
  have H := Lib.hid h; clear h
  go_enter Try.func15, Try.ntmps15
  go_wp2_with (go_at_call 22; refine (trunc_nan _ H.out).mono ?_; rintro e w' ⟨b, n, hb, rfl, rfl⟩; have Hb := Lib.hid hb; clear hb)
  go_ret
  exact ⟨b, n, Hb.out, rfl, rfl⟩
theorem reck_even {x y : Nat} (w : World) (h : nanB x = false) : Calls Try.prog 15 #[.int .i64 158, .float .f64 x, .float .f64 y] w fun e w' => e = .returned (.float .f64 (flr .even x)) ∧ w = w' := by
  have hr := run23 x w
  rw [whole_num w h] at hr
  simp only [Result.andThen] at hr
  clear h
  go_enter Try.func15, Try.ntmps15
  go_wp2
  go_ret
  exact ⟨rfl, rfl⟩
theorem reck_even_nan {x y : Nat} (w : World) (h : nanB x = true) : Calls Try.prog 15 #[.int .i64 158, .float .f64 x, .float .f64 y] w (NanEnd w) := by
  have hr := run23 x w
  obtain ⟨b, n, hb, h2⟩ := whole_nan (name := "math.RoundToEven") (way := .even) (P := Try.prog) w h
  rw [h2] at hr
  simp only [Result.andThen] at hr
  have Hb := Lib.hid hb
  clear h h2 hb
  go_enter Try.func15, Try.ntmps15
  go_wp2
  go_ret
  exact ⟨b, n, Hb.out, rfl, rfl⟩
theorem float_none (op : BinOp) (t : TypeId) (x y : Nat) (w : World) (h : floatBits op .f64 x y = none) (ho : op = .add ∨ op = .sub ∨ op = .mul ∨ op = .quo) :
    ∃ b, nanB b = true ∧ (binOp op t (.float .f64 x) (.float .f64 y)).run Try.prog w = .ok (.float .f64 b) (w.drewN 1) := by
  refine ⟨(Question.nanBits .f64 x y).cut (w.tape w.drawn (.nanBits .f64 x y)), ?_, ?_⟩
  · apply nanB_nan
    unfold Question.cut
    generalize w.tape w.drawn (Question.nanBits FloatKind.f64 x y) = q
    simp only [Nat.reducePow, Nat.reduceSub]
    have h1 : q % 2 < 2 := Nat.mod_lt _ (by omega)
    have h2 : q / 2 % 4503599627370495 < 4503599627370495 := Nat.mod_lt _ (by omega)
    generalize q % 2 = s at *
    generalize q / 2 % 4503599627370495 = r at *
    rcases (show s = 0 ∨ s = 1 by omega) with rfl | rfl <;> omega
  · unfold floatBits at h
    rcases ho with rfl | rfl | rfl | rfl <;> (simp only at h; simp [binOp, Op.floatArith, h, Question.forced]; rfl)
theorem reck_add {x y r : Nat} (w : World) (h : Ieee.double.add x y = some r) : Calls Try.prog 15 #[.int .i64 160, .float .f64 x, .float .f64 y] w fun e w' => e = .returned (.float .f64 r) ∧ w = w' := by
  have hr := run_float_arith (P := Try.prog) w .add 32 .f64 x y r h
  clear h
  go_enter Try.func15, Try.ntmps15
  go_wp2
  go_ret
  exact ⟨rfl, rfl⟩
theorem reck_add_nan {x y : Nat} (w : World) (h : Ieee.double.add x y = none) : Calls Try.prog 15 #[.int .i64 160, .float .f64 x, .float .f64 y] w (NanEnd w) := by
  obtain ⟨b, hb, hr⟩ := float_none .add 32 x y w h (.inl rfl)
  have Hb := Lib.hid hb; clear h hb
  go_enter Try.func15, Try.ntmps15
  go_wp2
  go_ret
  exact ⟨b, 1, Hb.out, rfl, rfl⟩
theorem reck_sub {x y r : Nat} (w : World) (h : Ieee.double.sub x y = some r) : Calls Try.prog 15 #[.int .i64 161, .float .f64 x, .float .f64 y] w fun e w' => e = .returned (.float .f64 r) ∧ w = w' := by
  have hr := run_float_arith (P := Try.prog) w .sub 32 .f64 x y r h
  clear h
  go_enter Try.func15, Try.ntmps15
  go_wp2
  go_ret
  exact ⟨rfl, rfl⟩
theorem reck_sub_nan {x y : Nat} (w : World) (h : Ieee.double.sub x y = none) : Calls Try.prog 15 #[.int .i64 161, .float .f64 x, .float .f64 y] w (NanEnd w) := by
  obtain ⟨b, hb, hr⟩ := float_none .sub 32 x y w h (.inr (.inl rfl))
  have Hb := Lib.hid hb; clear h hb
  go_enter Try.func15, Try.ntmps15
  go_wp2
  go_ret
  exact ⟨b, 1, Hb.out, rfl, rfl⟩
theorem reck_mul {x y r : Nat} (w : World) (h : Ieee.double.mul x y = some r) : Calls Try.prog 15 #[.int .i64 162, .float .f64 x, .float .f64 y] w fun e w' => e = .returned (.float .f64 r) ∧ w = w' := by
  have hr := run_float_arith (P := Try.prog) w .mul 32 .f64 x y r h
  clear h
  go_enter Try.func15, Try.ntmps15
  go_wp2
  go_ret
  exact ⟨rfl, rfl⟩
theorem reck_mul_nan {x y : Nat} (w : World) (h : Ieee.double.mul x y = none) : Calls Try.prog 15 #[.int .i64 162, .float .f64 x, .float .f64 y] w (NanEnd w) := by
  obtain ⟨b, hb, hr⟩ := float_none .mul 32 x y w h (.inr (.inr (.inl rfl)))
  have Hb := Lib.hid hb; clear h hb
  go_enter Try.func15, Try.ntmps15
  go_wp2
  go_ret
  exact ⟨b, 1, Hb.out, rfl, rfl⟩
theorem reck_quo {x y r : Nat} (w : World) (h : Ieee.double.div x y = some r) : Calls Try.prog 15 #[.int .i64 163, .float .f64 x, .float .f64 y] w fun e w' => e = .returned (.float .f64 r) ∧ w = w' := by
  have hr := run_float_arith (P := Try.prog) w .quo 32 .f64 x y r h
  clear h
  go_enter Try.func15, Try.ntmps15
  go_wp2
  go_ret
  exact ⟨rfl, rfl⟩
theorem reck_quo_nan {x y : Nat} (w : World) (h : Ieee.double.div x y = none) : Calls Try.prog 15 #[.int .i64 163, .float .f64 x, .float .f64 y] w (NanEnd w) := by
  obtain ⟨b, hb, hr⟩ := float_none .quo 32 x y w h (.inr (.inr (.inr rfl)))
  have Hb := Lib.hid hb; clear h hb
  go_enter Try.func15, Try.ntmps15
  go_wp2
  go_ret
  exact ⟨b, 1, Hb.out, rfl, rfl⟩
theorem bits_num {x : Nat} (w : World) (h : nanB x = false) : Calls Try.prog 14 #[.float .f64 x] w fun e w' => e = .returned (.int .u64 x) ∧ w = w' := by
  have hc := fun w => call16 x w
  go_enter Try.func14, Try.ntmps14
  go_wp2_with (go_at_call 19; refine (isNaN_any _ _).mono ?_; rintro e w' ⟨rfl, rfl⟩)
  go_ret
  exact ⟨rfl, rfl⟩
theorem bits_nan {x : Nat} (w : World) (h : nanB x = true) : Calls Try.prog 14 #[.float .f64 x] w fun e w' => e = .returned (.int .u64 9221120237041090560) ∧ w = w' := by
  go_enter Try.func14, Try.ntmps14
  go_wp2_with (go_at_call 19; refine (isNaN_any _ _).mono ?_; rintro e w' ⟨rfl, rfl⟩)
  go_ret
  exact ⟨rfl, rfl⟩

end Go.Proofs.Ytdfjkollehhljaa
