/- The walk: some of the runs that the document lists come out as it says. -/
import Derived.Test.YtdfjkollehhljaaDo2
namespace Go.Proofs.Ytdfjkollehhljaa
open Go.RowKit

theorem wf_nonneg {a : Int} (h : (Lit.int .u64 a).wf = true) : 0 ≤ a := by
  simp [Lit.wf, IntKind.min, IntKind.max, IntKind.signed] at h
  omega
theorem wf_lt {a : Int} (h : (Lit.int .u64 a).wf = true) : a < 18446744073709551616 := by
  simp [Lit.wf, IntKind.min, IntKind.max, IntKind.signed, IntKind.bits] at h
  omega
theorem nan_quiet : nanB 9221120237041090560 = true := nanB_nan (by decide)
theorem nan_inf : nanB 9218868437227405312 = false := by decide +kernel
theorem div_1_0 : Ieee.double.div 4607182418800017408 0 = some 9218868437227405312 := by decide +kernel
theorem sub_inf : Ieee.double.sub 9218868437227405312 9218868437227405312 = none := by decide +kernel
theorem nan_0 : nanB 0 = false := by decide +kernel
theorem nan_m0 : nanB 9223372036854775808 = false := by decide +kernel
theorem ord_0 : FloatKind.f64.format.order 0 9223372036854775808 = some .eq := by decide +kernel
theorem sgn_0 : sgnB 0 = false := by decide +kernel

theorem k1 (w : World) : Calls Try.prog 7 #[.int .i64 163, .int .u64 4607182418800017408, .int .u64 0] w (DoEnd 9218868437227405312 w) := do_163 _ _ _ w div_1_0 nan_inf
theorem k2 (w : World) : Calls Try.prog 7 #[.int .i64 164, .int .u64 0, .int .u64 9223372036854775808] w (DoEnd 9223372036854775808 w) := do_164_eqn _ _ w nan_0 nan_m0 ord_0 sgn_0
theorem k3 (w : World) : Calls Try.prog 7 #[.int .i64 170, .int .u64 9221120237041090560, .int .u64 0] w (CutEnd 0 4 w) := do_170 _ _ _ _ w fun w => cut_170_nan _ w nan_quiet
theorem k4 (w : World) : Calls Try.prog 7 #[.int .i64 161, .int .u64 9218868437227405312, .int .u64 9218868437227405312] w (DoEnd 9221120237041090560 w) := do_161_nan _ _ w sub_inf
theorem k5 (w : World) : Calls Try.prog 8 #[.int .u64 9221120237041090560] w fun e w' => e = .returned (.bool true) ∧ w = w' := by
  have := naN_any 9221120237041090560 w
  rwa [show nanB (9221120237041090560 : Int).toNat = true from nan_quiet] at this
theorem k6 (w : World) : Calls Try.prog 8 #[.int .u64 9218868437227405312] w fun e w' => e = .returned (.bool false) ∧ w = w' := by
  have := naN_any 9218868437227405312 w
  rwa [show nanB (9218868437227405312 : Int).toNat = false from nan_inf] at this

theorem grown_trans {a b c : World} (h1 : Grown a b) (h2 : Grown b c) : Grown a c :=
  ⟨World.keptBut_trans h1.1 (World.keptBut_mono (fun _ h => h) h2.1), fun x => (h2.2.1 x).trans (h1.2.1 x), Nat.le_trans h1.2.2 h2.2.2⟩

theorem known_true (w : World) : Calls Try.prog 9 #[] w fun e w' => e = .returned (.bool true) ∧ Grown w w' := by
  go_enter Try.func9, Try.ntmps9
  go_wp2_with fail
  refine (k1 _).mono ?_
  rintro e w' ⟨rfl, n1, rfl⟩
  go_wp2_with fail
  refine (k2 _).mono ?_
  rintro e w' ⟨rfl, n2, rfl⟩
  go_wp2_with fail
  refine (k3 _).mono ?_
  rintro e w3 ⟨rfl, h3⟩
  have H3 := Lib.hid h3; clear h3
  go_wp2_with fail
  refine (k4 _).mono ?_
  rintro e w' ⟨rfl, n4, rfl⟩
  go_wp2_with fail
  refine (k5 _).mono ?_
  rintro e w' ⟨rfl, rfl⟩
  go_wp2_with fail
  refine (k6 _).mono ?_
  rintro e w' ⟨rfl, rfl⟩
  go_wp2_with fail
  refine (is_97 _).mono ?_
  rintro e w' ⟨rfl, rfl⟩
  go_wp2_with fail
  refine (is_69 _).mono ?_
  rintro e w' ⟨rfl, rfl⟩
  go_wp2_with fail
  go_ret
  exact ⟨rfl, grown_drewN (grown_trans (grown_drewN (Grown.refl _) _) H3.out) _⟩

end Go.Proofs.Ytdfjkollehhljaa
