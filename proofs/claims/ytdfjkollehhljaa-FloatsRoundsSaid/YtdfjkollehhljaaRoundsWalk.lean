/- The walk of FloatsRounds, one theorem a case. -/
import Derived.Test.YtdfjkollehhljaaKnown
import Derived.Test.YtdfjkollehhljaaRounds
namespace Go.Proofs.Ytdfjkollehhljaa
open Go.RowKit Ieee
theorem rounds_nan (a : Int) (cu : ∀ w, Calls Try.prog 7 #[.int .i64 155, .int .u64 a, .int .u64 0] w (DoEnd 9221120237041090560 w)) (cd : ∀ w, Calls Try.prog 7 #[.int .i64 156, .int .u64 a, .int .u64 0] w (DoEnd 9221120237041090560 w)) (cc : ∀ w, Calls Try.prog 7 #[.int .i64 157, .int .u64 a, .int .u64 0] w (DoEnd 9221120237041090560 w)) (ce : ∀ w, Calls Try.prog 7 #[.int .i64 158, .int .u64 a, .int .u64 0] w (DoEnd 9221120237041090560 w)) (cn : ∀ w, Calls Try.prog 8 #[.int .u64 a] w (fun e w' => e = .returned (.bool true) ∧ w = w')) (w : World) : Calls Try.prog 5 #[.int .u64 a] w fun e w' => e = .returned (.bool true) ∧ Grown w w' := by
  have Hcu := Lib.hid cu; clear cu
  have Hcd := Lib.hid cd; clear cd
  have Hcc := Lib.hid cc; clear cc
  have Hce := Lib.hid ce; clear ce
  have Hcn := Lib.hid cn; clear cn
  go_enter Try.func5, Try.ntmps5
  go_wp2_with fail
  refine (Hcu.out _).mono ?_
  rintro e w' ⟨rfl, n0, rfl⟩
  go_wp2_with fail
  refine (Hcd.out _).mono ?_
  rintro e w' ⟨rfl, n1, rfl⟩
  go_wp2_with fail
  refine (Hcc.out _).mono ?_
  rintro e w' ⟨rfl, n2, rfl⟩
  go_wp2_with fail
  refine (Hce.out _).mono ?_
  rintro e w' ⟨rfl, n3, rfl⟩
  go_wp2_with fail
  refine (Hcn.out _).mono ?_
  rintro e w' ⟨rfl, rfl⟩
  go_wp2_with fail
  refine (known_true _).mono ?_
  rintro e w' ⟨rfl, hg⟩
  have Hg := Lib.hid hg; clear hg
  go_wp2_with fail
  go_ret
  exact ⟨rfl, grown_trans (grown_drewN (Grown.refl _) _) Hg.out⟩
theorem rounds_0u (a U D C : Int) (cu : ∀ w, Calls Try.prog 7 #[.int .i64 155, .int .u64 a, .int .u64 0] w (DoEnd U w)) (cd : ∀ w, Calls Try.prog 7 #[.int .i64 156, .int .u64 a, .int .u64 0] w (DoEnd D w)) (cc : ∀ w, Calls Try.prog 7 #[.int .i64 157, .int .u64 a, .int .u64 0] w (DoEnd C w)) (ce : ∀ w, Calls Try.prog 7 #[.int .i64 158, .int .u64 a, .int .u64 0] w (DoEnd U w)) (cn : ∀ w, Calls Try.prog 8 #[.int .u64 a] w (fun e w' => e = .returned (.bool false) ∧ w = w')) (cle : ∀ w, Calls Try.prog 7 #[.int .i64 101, .int .u64 D, .int .u64 a] w (fun e w' => e = .returned (.tuple #[.int .u64 1, .int .i64 0]) ∧ w = w')) (cge : ∀ w, Calls Try.prog 7 #[.int .i64 102, .int .u64 U, .int .u64 a] w (fun e w' => e = .returned (.tuple #[.int .u64 1, .int .i64 0]) ∧ w = w')) (cneg : ∀ w, Calls Try.prog 7 #[.int .i64 99, .int .u64 a, .int .u64 0] w (fun e w' => e = .returned (.tuple #[.int .u64 0, .int .i64 0]) ∧ w = w')) (cag : ∀ w, Calls Try.prog 7 #[.int .i64 155, .int .u64 U, .int .u64 0] w (DoEnd U w)) (cba : ∀ w, Calls Try.prog 7 #[.int .i64 158, .int .u64 U, .int .u64 0] w (DoEnd U w)) (csa : ∀ w, Calls Try.prog 7 #[.int .i64 97, .int .u64 C, .int .u64 D] w (fun e w' => e = .returned (.tuple #[.int .u64 1, .int .i64 0]) ∧ w = w')) (hside : C / 9223372036854775808 = a / 9223372036854775808) (w : World) : Calls Try.prog 5 #[.int .u64 a] w fun e w' => e = .returned (.bool true) ∧ Grown w w' := by
  have Hcu := Lib.hid cu; clear cu
  have Hcd := Lib.hid cd; clear cd
  have Hcc := Lib.hid cc; clear cc
  have Hce := Lib.hid ce; clear ce
  have Hcn := Lib.hid cn; clear cn
  have Hcle := Lib.hid cle; clear cle
  have Hcge := Lib.hid cge; clear cge
  have Hcneg := Lib.hid cneg; clear cneg
  have Hcag := Lib.hid cag; clear cag
  have Hcba := Lib.hid cba; clear cba
  have Hcsa := Lib.hid csa; clear csa
  go_enter Try.func5, Try.ntmps5
  go_wp2_with fail
  refine (Hcu.out _).mono ?_
  rintro e w' ⟨rfl, n0, rfl⟩
  go_wp2_with fail
  refine (Hcd.out _).mono ?_
  rintro e w' ⟨rfl, n1, rfl⟩
  go_wp2_with fail
  refine (Hcc.out _).mono ?_
  rintro e w' ⟨rfl, n2, rfl⟩
  go_wp2_with fail
  refine (Hce.out _).mono ?_
  rintro e w' ⟨rfl, n3, rfl⟩
  go_wp2_with fail
  refine (Hcn.out _).mono ?_
  rintro e w' ⟨rfl, rfl⟩
  go_wp2_with fail
  refine (Hcle.out _).mono ?_
  rintro e w' ⟨rfl, rfl⟩
  go_wp2_with fail
  refine (Hcge.out _).mono ?_
  rintro e w' ⟨rfl, rfl⟩
  go_wp2_with fail
  refine (Hcneg.out _).mono ?_
  rintro e w' ⟨rfl, rfl⟩
  go_wp2_with fail
  refine (Hcag.out _).mono ?_
  rintro e w' ⟨rfl, n4, rfl⟩
  go_wp2_with fail
  refine (Hcba.out _).mono ?_
  rintro e w' ⟨rfl, n5, rfl⟩
  go_wp2_with fail
  refine (Hcsa.out _).mono ?_
  rintro e w' ⟨rfl, rfl⟩
  go_wp2_with fail
  refine (known_true _).mono ?_
  rintro e w' ⟨rfl, hg⟩
  have Hg := Lib.hid hg; clear hg
  go_wp2_with fail
  go_ret
  exact ⟨rfl, grown_trans (grown_drewN (Grown.refl _) _) Hg.out⟩
theorem rounds_0d (a U D C E : Int) (cu : ∀ w, Calls Try.prog 7 #[.int .i64 155, .int .u64 a, .int .u64 0] w (DoEnd U w)) (cd : ∀ w, Calls Try.prog 7 #[.int .i64 156, .int .u64 a, .int .u64 0] w (DoEnd D w)) (cc : ∀ w, Calls Try.prog 7 #[.int .i64 157, .int .u64 a, .int .u64 0] w (DoEnd C w)) (ce : ∀ w, Calls Try.prog 7 #[.int .i64 158, .int .u64 a, .int .u64 0] w (DoEnd E w)) (cn : ∀ w, Calls Try.prog 8 #[.int .u64 a] w (fun e w' => e = .returned (.bool false) ∧ w = w')) (cle : ∀ w, Calls Try.prog 7 #[.int .i64 101, .int .u64 D, .int .u64 a] w (fun e w' => e = .returned (.tuple #[.int .u64 1, .int .i64 0]) ∧ w = w')) (cge : ∀ w, Calls Try.prog 7 #[.int .i64 102, .int .u64 U, .int .u64 a] w (fun e w' => e = .returned (.tuple #[.int .u64 1, .int .i64 0]) ∧ w = w')) (cneg : ∀ w, Calls Try.prog 7 #[.int .i64 99, .int .u64 a, .int .u64 0] w (fun e w' => e = .returned (.tuple #[.int .u64 0, .int .i64 0]) ∧ w = w')) (cag : ∀ w, Calls Try.prog 7 #[.int .i64 155, .int .u64 U, .int .u64 0] w (DoEnd U w)) (cba : ∀ w, Calls Try.prog 7 #[.int .i64 158, .int .u64 E, .int .u64 0] w (DoEnd E w)) (csa : ∀ w, Calls Try.prog 7 #[.int .i64 97, .int .u64 C, .int .u64 D] w (fun e w' => e = .returned (.tuple #[.int .u64 1, .int .i64 0]) ∧ w = w')) (hside : C / 9223372036854775808 = a / 9223372036854775808) (hne : (E == U) = false) (hed : (E == D) = true) (w : World) : Calls Try.prog 5 #[.int .u64 a] w fun e w' => e = .returned (.bool true) ∧ Grown w w' := by
  have Hcu := Lib.hid cu; clear cu
  have Hcd := Lib.hid cd; clear cd
  have Hcc := Lib.hid cc; clear cc
  have Hce := Lib.hid ce; clear ce
  have Hcn := Lib.hid cn; clear cn
  have Hcle := Lib.hid cle; clear cle
  have Hcge := Lib.hid cge; clear cge
  have Hcneg := Lib.hid cneg; clear cneg
  have Hcag := Lib.hid cag; clear cag
  have Hcba := Lib.hid cba; clear cba
  have Hcsa := Lib.hid csa; clear csa
  go_enter Try.func5, Try.ntmps5
  go_wp2_with fail
  refine (Hcu.out _).mono ?_
  rintro e w' ⟨rfl, n0, rfl⟩
  go_wp2_with fail
  refine (Hcd.out _).mono ?_
  rintro e w' ⟨rfl, n1, rfl⟩
  go_wp2_with fail
  refine (Hcc.out _).mono ?_
  rintro e w' ⟨rfl, n2, rfl⟩
  go_wp2_with fail
  refine (Hce.out _).mono ?_
  rintro e w' ⟨rfl, n3, rfl⟩
  go_wp2_with fail
  refine (Hcn.out _).mono ?_
  rintro e w' ⟨rfl, rfl⟩
  go_wp2_with fail
  refine (Hcle.out _).mono ?_
  rintro e w' ⟨rfl, rfl⟩
  go_wp2_with fail
  refine (Hcge.out _).mono ?_
  rintro e w' ⟨rfl, rfl⟩
  go_wp2_with fail
  refine (Hcneg.out _).mono ?_
  rintro e w' ⟨rfl, rfl⟩
  go_wp2_with fail
  refine (Hcag.out _).mono ?_
  rintro e w' ⟨rfl, n4, rfl⟩
  go_wp2_with fail
  refine (Hcba.out _).mono ?_
  rintro e w' ⟨rfl, n5, rfl⟩
  go_wp2_with fail
  refine (Hcsa.out _).mono ?_
  rintro e w' ⟨rfl, rfl⟩
  go_wp2_with fail
  refine (known_true _).mono ?_
  rintro e w' ⟨rfl, hg⟩
  have Hg := Lib.hid hg; clear hg
  go_wp2_with fail
  go_ret
  exact ⟨rfl, grown_trans (grown_drewN (Grown.refl _) _) Hg.out⟩
theorem rounds_1u (a U D C : Int) (cu : ∀ w, Calls Try.prog 7 #[.int .i64 155, .int .u64 a, .int .u64 0] w (DoEnd U w)) (cd : ∀ w, Calls Try.prog 7 #[.int .i64 156, .int .u64 a, .int .u64 0] w (DoEnd D w)) (cc : ∀ w, Calls Try.prog 7 #[.int .i64 157, .int .u64 a, .int .u64 0] w (DoEnd C w)) (ce : ∀ w, Calls Try.prog 7 #[.int .i64 158, .int .u64 a, .int .u64 0] w (DoEnd U w)) (cn : ∀ w, Calls Try.prog 8 #[.int .u64 a] w (fun e w' => e = .returned (.bool false) ∧ w = w')) (cle : ∀ w, Calls Try.prog 7 #[.int .i64 101, .int .u64 D, .int .u64 a] w (fun e w' => e = .returned (.tuple #[.int .u64 1, .int .i64 0]) ∧ w = w')) (cge : ∀ w, Calls Try.prog 7 #[.int .i64 102, .int .u64 U, .int .u64 a] w (fun e w' => e = .returned (.tuple #[.int .u64 1, .int .i64 0]) ∧ w = w')) (cneg : ∀ w, Calls Try.prog 7 #[.int .i64 99, .int .u64 a, .int .u64 0] w (fun e w' => e = .returned (.tuple #[.int .u64 1, .int .i64 0]) ∧ w = w')) (cag : ∀ w, Calls Try.prog 7 #[.int .i64 155, .int .u64 U, .int .u64 0] w (DoEnd U w)) (cba : ∀ w, Calls Try.prog 7 #[.int .i64 158, .int .u64 U, .int .u64 0] w (DoEnd U w)) (csa : ∀ w, Calls Try.prog 7 #[.int .i64 97, .int .u64 C, .int .u64 U] w (fun e w' => e = .returned (.tuple #[.int .u64 1, .int .i64 0]) ∧ w = w')) (hside : C / 9223372036854775808 = a / 9223372036854775808) (w : World) : Calls Try.prog 5 #[.int .u64 a] w fun e w' => e = .returned (.bool true) ∧ Grown w w' := by
  have Hcu := Lib.hid cu; clear cu
  have Hcd := Lib.hid cd; clear cd
  have Hcc := Lib.hid cc; clear cc
  have Hce := Lib.hid ce; clear ce
  have Hcn := Lib.hid cn; clear cn
  have Hcle := Lib.hid cle; clear cle
  have Hcge := Lib.hid cge; clear cge
  have Hcneg := Lib.hid cneg; clear cneg
  have Hcag := Lib.hid cag; clear cag
  have Hcba := Lib.hid cba; clear cba
  have Hcsa := Lib.hid csa; clear csa
  go_enter Try.func5, Try.ntmps5
  go_wp2_with fail
  refine (Hcu.out _).mono ?_
  rintro e w' ⟨rfl, n0, rfl⟩
  go_wp2_with fail
  refine (Hcd.out _).mono ?_
  rintro e w' ⟨rfl, n1, rfl⟩
  go_wp2_with fail
  refine (Hcc.out _).mono ?_
  rintro e w' ⟨rfl, n2, rfl⟩
  go_wp2_with fail
  refine (Hce.out _).mono ?_
  rintro e w' ⟨rfl, n3, rfl⟩
  go_wp2_with fail
  refine (Hcn.out _).mono ?_
  rintro e w' ⟨rfl, rfl⟩
  go_wp2_with fail
  refine (Hcle.out _).mono ?_
  rintro e w' ⟨rfl, rfl⟩
  go_wp2_with fail
  refine (Hcge.out _).mono ?_
  rintro e w' ⟨rfl, rfl⟩
  go_wp2_with fail
  refine (Hcneg.out _).mono ?_
  rintro e w' ⟨rfl, rfl⟩
  go_wp2_with fail
  refine (Hcag.out _).mono ?_
  rintro e w' ⟨rfl, n4, rfl⟩
  go_wp2_with fail
  refine (Hcba.out _).mono ?_
  rintro e w' ⟨rfl, n5, rfl⟩
  go_wp2_with fail
  refine (Hcsa.out _).mono ?_
  rintro e w' ⟨rfl, rfl⟩
  go_wp2_with fail
  refine (known_true _).mono ?_
  rintro e w' ⟨rfl, hg⟩
  have Hg := Lib.hid hg; clear hg
  go_wp2_with fail
  go_ret
  exact ⟨rfl, grown_trans (grown_drewN (Grown.refl _) _) Hg.out⟩
theorem rounds_1d (a U D C E : Int) (cu : ∀ w, Calls Try.prog 7 #[.int .i64 155, .int .u64 a, .int .u64 0] w (DoEnd U w)) (cd : ∀ w, Calls Try.prog 7 #[.int .i64 156, .int .u64 a, .int .u64 0] w (DoEnd D w)) (cc : ∀ w, Calls Try.prog 7 #[.int .i64 157, .int .u64 a, .int .u64 0] w (DoEnd C w)) (ce : ∀ w, Calls Try.prog 7 #[.int .i64 158, .int .u64 a, .int .u64 0] w (DoEnd E w)) (cn : ∀ w, Calls Try.prog 8 #[.int .u64 a] w (fun e w' => e = .returned (.bool false) ∧ w = w')) (cle : ∀ w, Calls Try.prog 7 #[.int .i64 101, .int .u64 D, .int .u64 a] w (fun e w' => e = .returned (.tuple #[.int .u64 1, .int .i64 0]) ∧ w = w')) (cge : ∀ w, Calls Try.prog 7 #[.int .i64 102, .int .u64 U, .int .u64 a] w (fun e w' => e = .returned (.tuple #[.int .u64 1, .int .i64 0]) ∧ w = w')) (cneg : ∀ w, Calls Try.prog 7 #[.int .i64 99, .int .u64 a, .int .u64 0] w (fun e w' => e = .returned (.tuple #[.int .u64 1, .int .i64 0]) ∧ w = w')) (cag : ∀ w, Calls Try.prog 7 #[.int .i64 155, .int .u64 U, .int .u64 0] w (DoEnd U w)) (cba : ∀ w, Calls Try.prog 7 #[.int .i64 158, .int .u64 E, .int .u64 0] w (DoEnd E w)) (csa : ∀ w, Calls Try.prog 7 #[.int .i64 97, .int .u64 C, .int .u64 U] w (fun e w' => e = .returned (.tuple #[.int .u64 1, .int .i64 0]) ∧ w = w')) (hside : C / 9223372036854775808 = a / 9223372036854775808) (hne : (E == U) = false) (hed : (E == D) = true) (w : World) : Calls Try.prog 5 #[.int .u64 a] w fun e w' => e = .returned (.bool true) ∧ Grown w w' := by
  have Hcu := Lib.hid cu; clear cu
  have Hcd := Lib.hid cd; clear cd
  have Hcc := Lib.hid cc; clear cc
  have Hce := Lib.hid ce; clear ce
  have Hcn := Lib.hid cn; clear cn
  have Hcle := Lib.hid cle; clear cle
  have Hcge := Lib.hid cge; clear cge
  have Hcneg := Lib.hid cneg; clear cneg
  have Hcag := Lib.hid cag; clear cag
  have Hcba := Lib.hid cba; clear cba
  have Hcsa := Lib.hid csa; clear csa
  go_enter Try.func5, Try.ntmps5
  go_wp2_with fail
  refine (Hcu.out _).mono ?_
  rintro e w' ⟨rfl, n0, rfl⟩
  go_wp2_with fail
  refine (Hcd.out _).mono ?_
  rintro e w' ⟨rfl, n1, rfl⟩
  go_wp2_with fail
  refine (Hcc.out _).mono ?_
  rintro e w' ⟨rfl, n2, rfl⟩
  go_wp2_with fail
  refine (Hce.out _).mono ?_
  rintro e w' ⟨rfl, n3, rfl⟩
  go_wp2_with fail
  refine (Hcn.out _).mono ?_
  rintro e w' ⟨rfl, rfl⟩
  go_wp2_with fail
  refine (Hcle.out _).mono ?_
  rintro e w' ⟨rfl, rfl⟩
  go_wp2_with fail
  refine (Hcge.out _).mono ?_
  rintro e w' ⟨rfl, rfl⟩
  go_wp2_with fail
  refine (Hcneg.out _).mono ?_
  rintro e w' ⟨rfl, rfl⟩
  go_wp2_with fail
  refine (Hcag.out _).mono ?_
  rintro e w' ⟨rfl, n4, rfl⟩
  go_wp2_with fail
  refine (Hcba.out _).mono ?_
  rintro e w' ⟨rfl, n5, rfl⟩
  go_wp2_with fail
  refine (Hcsa.out _).mono ?_
  rintro e w' ⟨rfl, rfl⟩
  go_wp2_with fail
  refine (known_true _).mono ?_
  rintro e w' ⟨rfl, hg⟩
  have Hg := Lib.hid hg; clear hg
  go_wp2_with fail
  go_ret
  exact ⟨rfl, grown_trans (grown_drewN (Grown.refl _) _) Hg.out⟩
theorem rounds_walk (a : Int) (a0 : 0 ≤ a) (a1 : a < 18446744073709551616) (w : World) : Calls Try.prog 5 #[.int .u64 a] w fun e w' => e = .returned (.bool true) ∧ Grown w w' := by
  have ha : a = ((a.toNat : Nat) : Int) := by omega
  have cn := naN_any a
  cases hn : nanB a.toNat with
  | true =>
    rw [hn] at cn
    exact rounds_nan a (fun w => do_155_nan a 0 w hn) (fun w => do_156_nan a 0 w hn) (fun w => do_157_nan a 0 w hn) (fun w => do_158_nan a 0 w hn) cn w
  | false =>
    rw [hn] at cn
    have R : Rounded a.toNat (flr .up a.toNat) (flr .down a.toNat) (flr .zero a.toNat) (flr .even a.toNat) := by
      rcases cases_of a.toNat (by omega) with h | ⟨h, s, e⟩ | ⟨h, s, m, p, hc, e⟩
      · rw [h] at hn; cases hn
      · rw [e]; exact rounded_inf s
      · rw [e]; exact rounded_num s hc
    have cu := fun w => do_155 a 0 w hn R.nU
    have cd := fun w => do_156 a 0 w hn R.nD
    have cc := fun w => do_157 a 0 w hn R.nC
    have ce := fun w => do_158 a 0 w hn R.nE
    obtain ⟨nU, nD, nC, nE, le, ge, again, back, near, same, side⟩ := R
    generalize flr .up a.toNat = U at *
    generalize flr .down a.toNat = D at *
    generalize flr .zero a.toNat = C at *
    generalize flr .even a.toNat = E at *
    have cle : ∀ w, Calls Try.prog 7 #[.int .i64 101, .int .u64 (D : Int), .int .u64 a] w (fun e w' => e = .returned (.tuple #[.int .u64 1, .int .i64 0]) ∧ w = w') := fun w => by
      have := do_101 (D : Int) a w
      rw [show (ordB (D : Int).toNat a.toNat .lt || ordB (D : Int).toNat a.toNat .eq) = true from le] at this
      exact this
    have cge : ∀ w, Calls Try.prog 7 #[.int .i64 102, .int .u64 (U : Int), .int .u64 a] w (fun e w' => e = .returned (.tuple #[.int .u64 1, .int .i64 0]) ∧ w = w') := fun w => by
      have := do_102 (U : Int) a w
      rw [show (ordB (U : Int).toNat a.toNat .gt || ordB (U : Int).toNat a.toNat .eq) = true from ge] at this
      exact this
    have cag : ∀ w, Calls Try.prog 7 #[.int .i64 155, .int .u64 (U : Int), .int .u64 0] w (DoEnd U w) := fun w => by
      have := do_155 (U : Int) 0 w nU (by rw [show flr .up (U : Int).toNat = U from again]; exact nU)
      rwa [show flr .up (U : Int).toNat = U from again] at this
    have cba : ∀ w, Calls Try.prog 7 #[.int .i64 158, .int .u64 (E : Int), .int .u64 0] w (DoEnd E w) := fun w => by
      have := do_158 (E : Int) 0 w nE (by rw [show flr .even (E : Int).toNat = E from back]; exact nE)
      rwa [show flr .even (E : Int).toNat = E from back] at this
    have eqs : ∀ X : Nat, nanB X = false → ∀ w, Calls Try.prog 7 #[.int .i64 97, .int .u64 (X : Int), .int .u64 (X : Int)] w (fun e w' => e = .returned (.tuple #[.int .u64 1, .int .i64 0]) ∧ w = w') := fun X hX w => by
      have := do_97 (X : Int) (X : Int) w
      rw [show ordB (X : Int).toNat (X : Int).toNat .eq = true from cmp_self hX] at this
      exact this
    have hside : (C : Int) / 9223372036854775808 = a / 9223372036854775808 := by omega
    have lt0 := do_99 a 0
    cases hneg : cmpB a.toNat 0 .lt with
    | true =>
      rw [hneg, if_pos rfl] at same
      have cneg : ∀ w, Calls Try.prog 7 #[.int .i64 99, .int .u64 a, .int .u64 0] w (fun e w' => e = .returned (.tuple #[.int .u64 1, .int .i64 0]) ∧ w = w') := fun w => by
        have := do_99 a 0 w
        rw [show ordB a.toNat (0 : Int).toNat .lt = true from hneg] at this
        exact this
      have csa : ∀ w, Calls Try.prog 7 #[.int .i64 97, .int .u64 (C : Int), .int .u64 (U : Int)] w (fun e w' => e = .returned (.tuple #[.int .u64 1, .int .i64 0]) ∧ w = w') := by rw [same]; exact eqs U nU
      by_cases hEU : E = U
      · subst hEU
        exact rounds_1u a _ _ _ cu cd cc ce cn cle cge cneg cag cba csa hside w
      · exact rounds_1d a _ _ _ _ cu cd cc ce cn cle cge cneg cag cba csa hside (by simp; omega) (by simp; omega) w
    | false =>
      rw [hneg, if_neg (by decide)] at same
      have cneg : ∀ w, Calls Try.prog 7 #[.int .i64 99, .int .u64 a, .int .u64 0] w (fun e w' => e = .returned (.tuple #[.int .u64 0, .int .i64 0]) ∧ w = w') := fun w => by
        have := do_99 a 0 w
        rw [show ordB a.toNat (0 : Int).toNat .lt = false from hneg] at this
        exact this
      have csa : ∀ w, Calls Try.prog 7 #[.int .i64 97, .int .u64 (C : Int), .int .u64 (D : Int)] w (fun e w' => e = .returned (.tuple #[.int .u64 1, .int .i64 0]) ∧ w = w') := by rw [same]; exact eqs D nD
      by_cases hEU : E = U
      · subst hEU
        exact rounds_0u a _ _ _ cu cd cc ce cn cle cge cneg cag cba csa hside w
      · exact rounds_0d a _ _ _ _ cu cd cc ce cn cle cge cneg cag cba csa hside (by simp; omega) (by simp; omega) w

end Go.Proofs.Ytdfjkollehhljaa
