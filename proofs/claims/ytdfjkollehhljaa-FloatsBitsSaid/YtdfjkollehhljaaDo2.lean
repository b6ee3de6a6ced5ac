/- The walk: floats.Do at the ops that cut off to whole numbers, and at two that make numbers with a point of whole ones. -/
import Derived.Test.YtdfjkollehhljaaCut
namespace Go.Proofs.Ytdfjkollehhljaa
open Go.RowKit
theorem do_170 (a b v t : Int) (w : World) (hc : ∀ w, Calls Try.prog 18 #[.int .i64 170, .float .f64 a.toNat] w (CutEnd v t w)) : Calls Try.prog 7 #[.int .i64 170, .int .u64 a, .int .u64 b] w (CutEnd v t w) := by
  have h1 := fun n w => call10 n w
  have H := Lib.hid hc; clear hc
  go_enter Try.func7, Try.ntmps7
  go_wp2_with (first | (go_at_call 11; refine (is_170 _).mono ?_; rintro e w' ⟨rfl, rfl⟩) | (go_at_call 18; refine (H.out _).mono ?_; rintro e w' ⟨rfl, hg⟩; have Hg := Lib.hid hg; clear hg))
  go_ret2
  exact ⟨rfl, Hg.out⟩
theorem do_171 (a b v t : Int) (w : World) (hc : ∀ w, Calls Try.prog 18 #[.int .i64 171, .float .f64 a.toNat] w (CutEnd v t w)) : Calls Try.prog 7 #[.int .i64 171, .int .u64 a, .int .u64 b] w (CutEnd v t w) := by
  have h1 := fun n w => call10 n w
  have H := Lib.hid hc; clear hc
  go_enter Try.func7, Try.ntmps7
  go_wp2_with (first | (go_at_call 11; refine (is_171 _).mono ?_; rintro e w' ⟨rfl, rfl⟩) | (go_at_call 18; refine (H.out _).mono ?_; rintro e w' ⟨rfl, hg⟩; have Hg := Lib.hid hg; clear hg))
  go_ret2
  exact ⟨rfl, Hg.out⟩
theorem do_176 (a b v t : Int) (w : World) (hc : ∀ w, Calls Try.prog 18 #[.int .i64 176, .float .f64 a.toNat] w (CutEnd v t w)) : Calls Try.prog 7 #[.int .i64 176, .int .u64 a, .int .u64 b] w (CutEnd v t w) := by
  have h1 := fun n w => call10 n w
  have H := Lib.hid hc; clear hc
  go_enter Try.func7, Try.ntmps7
  go_wp2_with (first | (go_at_call 11; refine (is_176 _).mono ?_; rintro e w' ⟨rfl, rfl⟩) | (go_at_call 18; refine (H.out _).mono ?_; rintro e w' ⟨rfl, hg⟩; have Hg := Lib.hid hg; clear hg))
  go_ret2
  exact ⟨rfl, Hg.out⟩
theorem do_177 (a b v t : Int) (w : World) (hc : ∀ w, Calls Try.prog 18 #[.int .i64 177, .float .f64 a.toNat] w (CutEnd v t w)) : Calls Try.prog 7 #[.int .i64 177, .int .u64 a, .int .u64 b] w (CutEnd v t w) := by
  have h1 := fun n w => call10 n w
  have H := Lib.hid hc; clear hc
  go_enter Try.func7, Try.ntmps7
  go_wp2_with (first | (go_at_call 11; refine (is_177 _).mono ?_; rintro e w' ⟨rfl, rfl⟩) | (go_at_call 18; refine (H.out _).mono ?_; rintro e w' ⟨rfl, hg⟩; have Hg := Lib.hid hg; clear hg))
  go_ret2
  exact ⟨rfl, Hg.out⟩
theorem do_64514 (a b v t : Int) (w : World) (hc : ∀ w, Calls Try.prog 18 #[.int .i64 64514, .float .f64 a.toNat] w (CutEnd v t w)) : Calls Try.prog 7 #[.int .i64 64514, .int .u64 a, .int .u64 b] w (CutEnd v t w) := by
  have h1 := fun n w => call10 n w
  have H := Lib.hid hc; clear hc
  go_enter Try.func7, Try.ntmps7
  go_wp2_with (first | (go_at_call 11; refine (is_64514 _).mono ?_; rintro e w' ⟨rfl, rfl⟩) | (go_at_call 18; refine (H.out _).mono ?_; rintro e w' ⟨rfl, hg⟩; have Hg := Lib.hid hg; clear hg))
  go_ret2
  exact ⟨rfl, Hg.out⟩
theorem do_64515 (a b v t : Int) (w : World) (hc : ∀ w, Calls Try.prog 18 #[.int .i64 64515, .float .f64 a.toNat] w (CutEnd v t w)) : Calls Try.prog 7 #[.int .i64 64515, .int .u64 a, .int .u64 b] w (CutEnd v t w) := by
  have h1 := fun n w => call10 n w
  have H := Lib.hid hc; clear hc
  go_enter Try.func7, Try.ntmps7
  go_wp2_with (first | (go_at_call 11; refine (is_64515 _).mono ?_; rintro e w' ⟨rfl, rfl⟩) | (go_at_call 18; refine (H.out _).mono ?_; rintro e w' ⟨rfl, hg⟩; have Hg := Lib.hid hg; clear hg))
  go_ret2
  exact ⟨rfl, Hg.out⟩
theorem do_64518 (a b v t : Int) (w : World) (hc : ∀ w, Calls Try.prog 18 #[.int .i64 64518, .float .f64 a.toNat] w (CutEnd v t w)) : Calls Try.prog 7 #[.int .i64 64518, .int .u64 a, .int .u64 b] w (CutEnd v t w) := by
  have h1 := fun n w => call10 n w
  have H := Lib.hid hc; clear hc
  go_enter Try.func7, Try.ntmps7
  go_wp2_with (first | (go_at_call 11; refine (is_64518 _).mono ?_; rintro e w' ⟨rfl, rfl⟩) | (go_at_call 18; refine (H.out _).mono ?_; rintro e w' ⟨rfl, hg⟩; have Hg := Lib.hid hg; clear hg))
  go_ret2
  exact ⟨rfl, Hg.out⟩
theorem do_64519 (a b v t : Int) (w : World) (hc : ∀ w, Calls Try.prog 18 #[.int .i64 64519, .float .f64 a.toNat] w (CutEnd v t w)) : Calls Try.prog 7 #[.int .i64 64519, .int .u64 a, .int .u64 b] w (CutEnd v t w) := by
  have h1 := fun n w => call10 n w
  have H := Lib.hid hc; clear hc
  go_enter Try.func7, Try.ntmps7
  go_wp2_with (first | (go_at_call 11; refine (is_64519 _).mono ?_; rintro e w' ⟨rfl, rfl⟩) | (go_at_call 18; refine (H.out _).mono ?_; rintro e w' ⟨rfl, hg⟩; have Hg := Lib.hid hg; clear hg))
  go_ret2
  exact ⟨rfl, Hg.out⟩
theorem sign_32 (a : Int) (w : World) : Calls Try.prog 26 #[.int .u64 a, .int .i64 32] w fun e w' => e = .returned (.int .i64 (wrap64 (IntKind.u64.wrap (a * 4294967296)) / 4294967296)) ∧ w = w' := by
  go_enter Try.func26, Try.ntmps26
  go_wp2
  go_ret
  exact ⟨by simp, rfl⟩
theorem made_183 (a : Int) (w : World) : Calls Try.prog 17 #[.int .i64 183, .int .u64 a] w fun e w' => e = .returned (.float .f64 (floatOfInt .f64 (wrap64 (IntKind.u64.wrap (a * 4294967296)) / 4294967296))) ∧ w = w' := by
  have hr := fun (n : Int) (w : World) => run_convert_int_float (P := Try.prog) w 2 32 .i64 .f64 n (by kernel_rfl) (by kernel_rfl)
  go_enter Try.func17, Try.ntmps17
  go_wp2_with (first | (go_at_call 26; refine (sign_32 _ _).mono ?_; rintro e w' ⟨rfl, rfl⟩))
  go_ret
  exact ⟨rfl, rfl⟩
theorem made_184 (a : Int) (w : World) : Calls Try.prog 17 #[.int .i64 184, .int .u64 a] w fun e w' => e = .returned (.float .f64 (floatOfInt .f64 (bits .and .u64 a 4294967295))) ∧ w = w' := by
  have hr := fun (n : Int) (w : World) => run_convert_int_float (P := Try.prog) w 22 32 .u64 .f64 n (by kernel_rfl) (by kernel_rfl)
  go_enter Try.func17, Try.ntmps17
  go_wp2
  go_ret
  exact ⟨rfl, rfl⟩
theorem do_183 (a b : Int) (w : World) : Calls Try.prog 7 #[.int .i64 183, .int .u64 a, .int .u64 b] w fun e w' => e = .returned (.tuple #[.int .u64 (floatOfInt .f64 (wrap64 (IntKind.u64.wrap (a * 4294967296)) / 4294967296)), .int .i64 0]) ∧ w = w' := by
  have h1 := fun n w => call10 n w
  have h2 := fun n w => call16 n w
  go_enter Try.func7, Try.ntmps7
  go_wp2_with (first | (go_at_call 11; refine (is_183 _).mono ?_; rintro e w' ⟨rfl, rfl⟩) | (go_at_call 17; refine (made_183 _ _).mono ?_; rintro e w' ⟨rfl, rfl⟩))
  go_ret2
  exact ⟨rfl, rfl⟩
theorem do_184 (a b : Int) (w : World) : Calls Try.prog 7 #[.int .i64 184, .int .u64 a, .int .u64 b] w fun e w' => e = .returned (.tuple #[.int .u64 (floatOfInt .f64 (bits .and .u64 a 4294967295)), .int .i64 0]) ∧ w = w' := by
  have h1 := fun n w => call10 n w
  have h2 := fun n w => call16 n w
  go_enter Try.func7, Try.ntmps7
  go_wp2_with (first | (go_at_call 11; refine (is_184 _).mono ?_; rintro e w' ⟨rfl, rfl⟩) | (go_at_call 17; refine (made_184 _ _).mono ?_; rintro e w' ⟨rfl, rfl⟩))
  go_ret2
  exact ⟨rfl, rfl⟩
theorem naN_any (a : Int) (w : World) : Calls Try.prog 8 #[.int .u64 a] w fun e w' => e = .returned (.bool (nanB a.toNat)) ∧ w = w' := by
  have h1 := fun n w => call10 n w
  go_enter Try.func8, Try.ntmps8
  go_wp2_with (first | (go_at_call 19; refine (isNaN_any _ _).mono ?_; rintro e w' ⟨rfl, rfl⟩))
  go_ret
  exact ⟨rfl, rfl⟩
theorem is_69 (w : World) : Calls Try.prog 11 #[.int .i64 69] w fun e w' => e = .returned (.bool false) ∧ w = w' := by
  go_enter Try.func11, Try.ntmps11
  go_wp2
  go_ret
  exact ⟨rfl, rfl⟩

end Go.Proofs.Ytdfjkollehhljaa
