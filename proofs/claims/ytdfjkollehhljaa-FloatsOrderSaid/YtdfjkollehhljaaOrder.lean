/- The walk of FloatsOrder, one theorem a case. -/
import Derived.Test.YtdfjkollehhljaaKnown
namespace Go.Proofs.Ytdfjkollehhljaa
open Go.RowKit

theorem ord_nan_left {x y : Nat} (h : nanB x = true) (o : Ordering) : ordB x y o = false := by
  rw [nanB_read] at h
  unfold ordB FloatKind.format Ieee.Format.order
  cases hd : Ieee.double.read x with
  | nan s t => rfl
  | infinity s => rw [hd] at h; cases h
  | number s m p => rw [hd] at h; cases h
theorem ord_nan_right {x y : Nat} (h : nanB y = true) (o : Ordering) : ordB x y o = false := by
  rw [nanB_read] at h
  unfold ordB FloatKind.format Ieee.Format.order
  cases hd : Ieee.double.read y with
  | nan s t => cases Ieee.double.read x <;> rfl
  | infinity s => rw [hd] at h; cases h
  | number s m p => rw [hd] at h; cases h
theorem ord_num {x y : Nat} (hx : nanB x = false) (hy : nanB y = false) : ∃ o, FloatKind.f64.format.order x y = some o := by
  rw [nanB_read] at hx hy
  unfold FloatKind.format Ieee.Format.order
  cases hd : Ieee.double.read x <;> cases he : Ieee.double.read y <;> first | (rw [hd] at hx; cases hx; done) | (rw [he] at hy; cases hy; done) | exact ⟨_, rfl⟩
theorem order_nana (a b : Int) (ha : nanB a.toNat = true) (w : World) : Calls Try.prog 3 #[.int .u64 a, .int .u64 b] w fun e w' => e = .returned (.bool true) ∧ Grown w w' := by
  have glt : ordB a.toNat b.toNat .lt = false := ord_nan_left ha _
  have ggt : ordB a.toNat b.toNat .gt = false := ord_nan_left ha _
  have geq : ordB a.toNat b.toNat .eq = false := ord_nan_left ha _
  have c99 : ∀ w, Calls Try.prog 7 #[.int .i64 99, .int .u64 a, .int .u64 b] w (fun e w' => e = .returned (.tuple #[.int .u64 0, .int .i64 0]) ∧ w = w') := fun w => by have := do_99 a b w; rw [glt] at this; exact this
  have c100 : ∀ w, Calls Try.prog 7 #[.int .i64 100, .int .u64 a, .int .u64 b] w (fun e w' => e = .returned (.tuple #[.int .u64 0, .int .i64 0]) ∧ w = w') := fun w => by have := do_100 a b w; rw [ggt] at this; exact this
  have c97 : ∀ w, Calls Try.prog 7 #[.int .i64 97, .int .u64 a, .int .u64 b] w (fun e w' => e = .returned (.tuple #[.int .u64 0, .int .i64 0]) ∧ w = w') := fun w => by have := do_97 a b w; rw [geq] at this; exact this
  have c98 : ∀ w, Calls Try.prog 7 #[.int .i64 98, .int .u64 a, .int .u64 b] w (fun e w' => e = .returned (.tuple #[.int .u64 1, .int .i64 0]) ∧ w = w') := fun w => by have := do_98 a b w; rw [geq] at this; exact this
  have c101 : ∀ w, Calls Try.prog 7 #[.int .i64 101, .int .u64 a, .int .u64 b] w (fun e w' => e = .returned (.tuple #[.int .u64 0, .int .i64 0]) ∧ w = w') := fun w => by have := do_101 a b w; rw [glt, geq] at this; exact this
  have c164 := fun w => do_164_nanx a b w ha
  have c165 := fun w => do_165_nanx a b w ha
  have n1 : ∀ w, Calls Try.prog 8 #[.int .u64 a] w (fun e w' => e = .returned (.bool true) ∧ w = w') := fun w => by have := naN_any a w; rw [ha] at this; exact this
  have Hc99 := Lib.hid c99; clear c99
  have Hc100 := Lib.hid c100; clear c100
  have Hc97 := Lib.hid c97; clear c97
  have Hc98 := Lib.hid c98; clear c98
  have Hc101 := Lib.hid c101; clear c101
  have Hc164 := Lib.hid c164; clear c164
  have Hc165 := Lib.hid c165; clear c165
  have Hn1 := Lib.hid n1; clear n1
  clear ha glt ggt geq
  go_enter Try.func3, Try.ntmps3
  go_wp2_with fail
  refine (Hc99.out _).mono ?_
  rintro e w' ⟨rfl, rfl⟩
  go_wp2_with fail
  refine (Hc100.out _).mono ?_
  rintro e w' ⟨rfl, rfl⟩
  go_wp2_with fail
  refine (Hc97.out _).mono ?_
  rintro e w' ⟨rfl, rfl⟩
  go_wp2_with fail
  refine (Hc98.out _).mono ?_
  rintro e w' ⟨rfl, rfl⟩
  go_wp2_with fail
  refine (Hc101.out _).mono ?_
  rintro e w' ⟨rfl, rfl⟩
  go_wp2_with fail
  refine (Hc164.out _).mono ?_
  rintro e w' ⟨rfl, n0, rfl⟩
  go_wp2_with fail
  refine (Hc165.out _).mono ?_
  rintro e w' ⟨rfl, n1, rfl⟩
  go_wp2_with fail
  refine (Hn1.out _).mono ?_
  rintro e w' ⟨rfl, rfl⟩
  go_wp2_with fail
  refine (known_true _).mono ?_
  rintro e w' ⟨rfl, hg⟩
  have Hg := Lib.hid hg; clear hg
  go_wp2_with fail
  go_ret
  exact ⟨rfl, grown_trans (grown_drewN (Grown.refl _) _) Hg.out⟩
theorem order_nanb (a b : Int) (ha : nanB a.toNat = false) (hb : nanB b.toNat = true) (w : World) : Calls Try.prog 3 #[.int .u64 a, .int .u64 b] w fun e w' => e = .returned (.bool true) ∧ Grown w w' := by
  have glt : ordB a.toNat b.toNat .lt = false := ord_nan_right hb _
  have ggt : ordB a.toNat b.toNat .gt = false := ord_nan_right hb _
  have geq : ordB a.toNat b.toNat .eq = false := ord_nan_right hb _
  have c99 : ∀ w, Calls Try.prog 7 #[.int .i64 99, .int .u64 a, .int .u64 b] w (fun e w' => e = .returned (.tuple #[.int .u64 0, .int .i64 0]) ∧ w = w') := fun w => by have := do_99 a b w; rw [glt] at this; exact this
  have c100 : ∀ w, Calls Try.prog 7 #[.int .i64 100, .int .u64 a, .int .u64 b] w (fun e w' => e = .returned (.tuple #[.int .u64 0, .int .i64 0]) ∧ w = w') := fun w => by have := do_100 a b w; rw [ggt] at this; exact this
  have c97 : ∀ w, Calls Try.prog 7 #[.int .i64 97, .int .u64 a, .int .u64 b] w (fun e w' => e = .returned (.tuple #[.int .u64 0, .int .i64 0]) ∧ w = w') := fun w => by have := do_97 a b w; rw [geq] at this; exact this
  have c98 : ∀ w, Calls Try.prog 7 #[.int .i64 98, .int .u64 a, .int .u64 b] w (fun e w' => e = .returned (.tuple #[.int .u64 1, .int .i64 0]) ∧ w = w') := fun w => by have := do_98 a b w; rw [geq] at this; exact this
  have c101 : ∀ w, Calls Try.prog 7 #[.int .i64 101, .int .u64 a, .int .u64 b] w (fun e w' => e = .returned (.tuple #[.int .u64 0, .int .i64 0]) ∧ w = w') := fun w => by have := do_101 a b w; rw [glt, geq] at this; exact this
  have c164 := fun w => do_164_nany a b w ha hb
  have c165 := fun w => do_165_nany a b w ha hb
  have n1 : ∀ w, Calls Try.prog 8 #[.int .u64 a] w (fun e w' => e = .returned (.bool false) ∧ w = w') := fun w => by have := naN_any a w; rw [ha] at this; exact this
  have n2 : ∀ w, Calls Try.prog 8 #[.int .u64 b] w (fun e w' => e = .returned (.bool true) ∧ w = w') := fun w => by have := naN_any b w; rw [hb] at this; exact this
  have Hc99 := Lib.hid c99; clear c99
  have Hc100 := Lib.hid c100; clear c100
  have Hc97 := Lib.hid c97; clear c97
  have Hc98 := Lib.hid c98; clear c98
  have Hc101 := Lib.hid c101; clear c101
  have Hc164 := Lib.hid c164; clear c164
  have Hc165 := Lib.hid c165; clear c165
  have Hn1 := Lib.hid n1; clear n1
  have Hn2 := Lib.hid n2; clear n2
  clear ha glt ggt geq hb
  go_enter Try.func3, Try.ntmps3
  go_wp2_with fail
  refine (Hc99.out _).mono ?_
  rintro e w' ⟨rfl, rfl⟩
  go_wp2_with fail
  refine (Hc100.out _).mono ?_
  rintro e w' ⟨rfl, rfl⟩
  go_wp2_with fail
  refine (Hc97.out _).mono ?_
  rintro e w' ⟨rfl, rfl⟩
  go_wp2_with fail
  refine (Hc98.out _).mono ?_
  rintro e w' ⟨rfl, rfl⟩
  go_wp2_with fail
  refine (Hc101.out _).mono ?_
  rintro e w' ⟨rfl, rfl⟩
  go_wp2_with fail
  refine (Hc164.out _).mono ?_
  rintro e w' ⟨rfl, n0, rfl⟩
  go_wp2_with fail
  refine (Hc165.out _).mono ?_
  rintro e w' ⟨rfl, n1, rfl⟩
  go_wp2_with fail
  refine (Hn1.out _).mono ?_
  rintro e w' ⟨rfl, rfl⟩
  go_wp2_with fail
  refine (Hn2.out _).mono ?_
  rintro e w' ⟨rfl, rfl⟩
  go_wp2_with fail
  refine (known_true _).mono ?_
  rintro e w' ⟨rfl, hg⟩
  have Hg := Lib.hid hg; clear hg
  go_wp2_with fail
  go_ret
  exact ⟨rfl, grown_trans (grown_drewN (Grown.refl _) _) Hg.out⟩
theorem order_lt (a b : Int) (a0 : 0 ≤ a) (b0 : 0 ≤ b) (ha : nanB a.toNat = false) (hb : nanB b.toNat = false) (ho : FloatKind.f64.format.order a.toNat b.toNat = some .lt) (w : World) : Calls Try.prog 3 #[.int .u64 a, .int .u64 b] w fun e w' => e = .returned (.bool true) ∧ Grown w w' := by
  have glt : ordB a.toNat b.toNat .lt = true := by unfold ordB; rw [ho]; rfl
  have ggt : ordB a.toNat b.toNat .gt = false := by unfold ordB; rw [ho]; rfl
  have geq : ordB a.toNat b.toNat .eq = false := by unfold ordB; rw [ho]; rfl
  have c99 : ∀ w, Calls Try.prog 7 #[.int .i64 99, .int .u64 a, .int .u64 b] w (fun e w' => e = .returned (.tuple #[.int .u64 1, .int .i64 0]) ∧ w = w') := fun w => by have := do_99 a b w; rw [glt] at this; exact this
  have c100 : ∀ w, Calls Try.prog 7 #[.int .i64 100, .int .u64 a, .int .u64 b] w (fun e w' => e = .returned (.tuple #[.int .u64 0, .int .i64 0]) ∧ w = w') := fun w => by have := do_100 a b w; rw [ggt] at this; exact this
  have c97 : ∀ w, Calls Try.prog 7 #[.int .i64 97, .int .u64 a, .int .u64 b] w (fun e w' => e = .returned (.tuple #[.int .u64 0, .int .i64 0]) ∧ w = w') := fun w => by have := do_97 a b w; rw [geq] at this; exact this
  have c98 : ∀ w, Calls Try.prog 7 #[.int .i64 98, .int .u64 a, .int .u64 b] w (fun e w' => e = .returned (.tuple #[.int .u64 1, .int .i64 0]) ∧ w = w') := fun w => by have := do_98 a b w; rw [geq] at this; exact this
  have c101 : ∀ w, Calls Try.prog 7 #[.int .i64 101, .int .u64 a, .int .u64 b] w (fun e w' => e = .returned (.tuple #[.int .u64 1, .int .i64 0]) ∧ w = w') := fun w => by have := do_101 a b w; rw [glt, geq] at this; exact this
  have c164 : ∀ w, Calls Try.prog 7 #[.int .i64 164, .int .u64 a, .int .u64 b] w (DoEnd a w) := fun w => by have := do_164_lt a b w ha hb ho; rw [show max a 0 = a by omega] at this; exact this
  have c165 : ∀ w, Calls Try.prog 7 #[.int .i64 165, .int .u64 a, .int .u64 b] w (DoEnd b w) := fun w => by have := do_165_lt a b w ha hb ho; rw [show max b 0 = b by omega] at this; exact this
  have n1 : ∀ w, Calls Try.prog 8 #[.int .u64 a] w (fun e w' => e = .returned (.bool false) ∧ w = w') := fun w => by have := naN_any a w; rw [ha] at this; exact this
  have n2 : ∀ w, Calls Try.prog 8 #[.int .u64 b] w (fun e w' => e = .returned (.bool false) ∧ w = w') := fun w => by have := naN_any b w; rw [hb] at this; exact this
  have Hc99 := Lib.hid c99; clear c99
  have Hc100 := Lib.hid c100; clear c100
  have Hc97 := Lib.hid c97; clear c97
  have Hc98 := Lib.hid c98; clear c98
  have Hc101 := Lib.hid c101; clear c101
  have Hc164 := Lib.hid c164; clear c164
  have Hc165 := Lib.hid c165; clear c165
  have Hn1 := Lib.hid n1; clear n1
  have Hn2 := Lib.hid n2; clear n2
  clear ha glt ggt geq a0 b0 hb ho
  go_enter Try.func3, Try.ntmps3
  go_wp2_with fail
  refine (Hc99.out _).mono ?_
  rintro e w' ⟨rfl, rfl⟩
  go_wp2_with fail
  refine (Hc100.out _).mono ?_
  rintro e w' ⟨rfl, rfl⟩
  go_wp2_with fail
  refine (Hc97.out _).mono ?_
  rintro e w' ⟨rfl, rfl⟩
  go_wp2_with fail
  refine (Hc98.out _).mono ?_
  rintro e w' ⟨rfl, rfl⟩
  go_wp2_with fail
  refine (Hc101.out _).mono ?_
  rintro e w' ⟨rfl, rfl⟩
  go_wp2_with fail
  refine (Hc164.out _).mono ?_
  rintro e w' ⟨rfl, n0, rfl⟩
  go_wp2_with fail
  refine (Hc165.out _).mono ?_
  rintro e w' ⟨rfl, n1, rfl⟩
  go_wp2_with fail
  refine (Hn1.out _).mono ?_
  rintro e w' ⟨rfl, rfl⟩
  go_wp2_with fail
  refine (Hn2.out _).mono ?_
  rintro e w' ⟨rfl, rfl⟩
  go_wp2_with fail
  refine (known_true _).mono ?_
  rintro e w' ⟨rfl, hg⟩
  have Hg := Lib.hid hg; clear hg
  go_wp2_with fail
  go_ret
  exact ⟨rfl, grown_trans (grown_drewN (Grown.refl _) _) Hg.out⟩
theorem order_gt (a b : Int) (a0 : 0 ≤ a) (b0 : 0 ≤ b) (ha : nanB a.toNat = false) (hb : nanB b.toNat = false) (ho : FloatKind.f64.format.order a.toNat b.toNat = some .gt) (w : World) : Calls Try.prog 3 #[.int .u64 a, .int .u64 b] w fun e w' => e = .returned (.bool true) ∧ Grown w w' := by
  have glt : ordB a.toNat b.toNat .lt = false := by unfold ordB; rw [ho]; rfl
  have ggt : ordB a.toNat b.toNat .gt = true := by unfold ordB; rw [ho]; rfl
  have geq : ordB a.toNat b.toNat .eq = false := by unfold ordB; rw [ho]; rfl
  have c99 : ∀ w, Calls Try.prog 7 #[.int .i64 99, .int .u64 a, .int .u64 b] w (fun e w' => e = .returned (.tuple #[.int .u64 0, .int .i64 0]) ∧ w = w') := fun w => by have := do_99 a b w; rw [glt] at this; exact this
  have c100 : ∀ w, Calls Try.prog 7 #[.int .i64 100, .int .u64 a, .int .u64 b] w (fun e w' => e = .returned (.tuple #[.int .u64 1, .int .i64 0]) ∧ w = w') := fun w => by have := do_100 a b w; rw [ggt] at this; exact this
  have c97 : ∀ w, Calls Try.prog 7 #[.int .i64 97, .int .u64 a, .int .u64 b] w (fun e w' => e = .returned (.tuple #[.int .u64 0, .int .i64 0]) ∧ w = w') := fun w => by have := do_97 a b w; rw [geq] at this; exact this
  have c98 : ∀ w, Calls Try.prog 7 #[.int .i64 98, .int .u64 a, .int .u64 b] w (fun e w' => e = .returned (.tuple #[.int .u64 1, .int .i64 0]) ∧ w = w') := fun w => by have := do_98 a b w; rw [geq] at this; exact this
  have c101 : ∀ w, Calls Try.prog 7 #[.int .i64 101, .int .u64 a, .int .u64 b] w (fun e w' => e = .returned (.tuple #[.int .u64 0, .int .i64 0]) ∧ w = w') := fun w => by have := do_101 a b w; rw [glt, geq] at this; exact this
  have c164 : ∀ w, Calls Try.prog 7 #[.int .i64 164, .int .u64 a, .int .u64 b] w (DoEnd b w) := fun w => by have := do_164_gt a b w ha hb ho; rw [show max b 0 = b by omega] at this; exact this
  have c165 : ∀ w, Calls Try.prog 7 #[.int .i64 165, .int .u64 a, .int .u64 b] w (DoEnd a w) := fun w => by have := do_165_gt a b w ha hb ho; rw [show max a 0 = a by omega] at this; exact this
  have n1 : ∀ w, Calls Try.prog 8 #[.int .u64 a] w (fun e w' => e = .returned (.bool false) ∧ w = w') := fun w => by have := naN_any a w; rw [ha] at this; exact this
  have n2 : ∀ w, Calls Try.prog 8 #[.int .u64 b] w (fun e w' => e = .returned (.bool false) ∧ w = w') := fun w => by have := naN_any b w; rw [hb] at this; exact this
  have Hc99 := Lib.hid c99; clear c99
  have Hc100 := Lib.hid c100; clear c100
  have Hc97 := Lib.hid c97; clear c97
  have Hc98 := Lib.hid c98; clear c98
  have Hc101 := Lib.hid c101; clear c101
  have Hc164 := Lib.hid c164; clear c164
  have Hc165 := Lib.hid c165; clear c165
  have Hn1 := Lib.hid n1; clear n1
  have Hn2 := Lib.hid n2; clear n2
  clear ha glt ggt geq a0 b0 hb ho
  rcases Decidable.em (b = a) with hab | hab
  all_goals first | subst hab | (have hn : (b == a) = false := by simpa using hab)
  all_goals try clear hab
  all_goals
    go_enter Try.func3, Try.ntmps3
    go_wp2_with fail
    refine (Hc99.out _).mono ?_
    rintro e w' ⟨rfl, rfl⟩
    go_wp2_with fail
    refine (Hc100.out _).mono ?_
    rintro e w' ⟨rfl, rfl⟩
    go_wp2_with fail
    refine (Hc97.out _).mono ?_
    rintro e w' ⟨rfl, rfl⟩
    go_wp2_with fail
    refine (Hc98.out _).mono ?_
    rintro e w' ⟨rfl, rfl⟩
    go_wp2_with fail
    refine (Hc101.out _).mono ?_
    rintro e w' ⟨rfl, rfl⟩
    go_wp2_with fail
    refine (Hc164.out _).mono ?_
    rintro e w' ⟨rfl, n0, rfl⟩
    go_wp2_with fail
    refine (Hc165.out _).mono ?_
    rintro e w' ⟨rfl, n1, rfl⟩
    go_wp2_with fail
    refine (Hn1.out _).mono ?_
    rintro e w' ⟨rfl, rfl⟩
    go_wp2_with fail
    refine (Hn2.out _).mono ?_
    rintro e w' ⟨rfl, rfl⟩
    go_wp2_with fail
    refine (known_true _).mono ?_
    rintro e w' ⟨rfl, hg⟩
    have Hg := Lib.hid hg; clear hg
    go_wp2_with fail
    go_ret
    exact ⟨rfl, grown_trans (grown_drewN (Grown.refl _) _) Hg.out⟩
theorem order_eqs (a b : Int) (a0 : 0 ≤ a) (b0 : 0 ≤ b) (ha : nanB a.toNat = false) (hb : nanB b.toNat = false) (ho : FloatKind.f64.format.order a.toNat b.toNat = some .eq) (hs : sgnB a.toNat = true) (w : World) : Calls Try.prog 3 #[.int .u64 a, .int .u64 b] w fun e w' => e = .returned (.bool true) ∧ Grown w w' := by
  have glt : ordB a.toNat b.toNat .lt = false := by unfold ordB; rw [ho]; rfl
  have ggt : ordB a.toNat b.toNat .gt = false := by unfold ordB; rw [ho]; rfl
  have geq : ordB a.toNat b.toNat .eq = true := by unfold ordB; rw [ho]; rfl
  have c99 : ∀ w, Calls Try.prog 7 #[.int .i64 99, .int .u64 a, .int .u64 b] w (fun e w' => e = .returned (.tuple #[.int .u64 0, .int .i64 0]) ∧ w = w') := fun w => by have := do_99 a b w; rw [glt] at this; exact this
  have c100 : ∀ w, Calls Try.prog 7 #[.int .i64 100, .int .u64 a, .int .u64 b] w (fun e w' => e = .returned (.tuple #[.int .u64 0, .int .i64 0]) ∧ w = w') := fun w => by have := do_100 a b w; rw [ggt] at this; exact this
  have c97 : ∀ w, Calls Try.prog 7 #[.int .i64 97, .int .u64 a, .int .u64 b] w (fun e w' => e = .returned (.tuple #[.int .u64 1, .int .i64 0]) ∧ w = w') := fun w => by have := do_97 a b w; rw [geq] at this; exact this
  have c98 : ∀ w, Calls Try.prog 7 #[.int .i64 98, .int .u64 a, .int .u64 b] w (fun e w' => e = .returned (.tuple #[.int .u64 0, .int .i64 0]) ∧ w = w') := fun w => by have := do_98 a b w; rw [geq] at this; exact this
  have c101 : ∀ w, Calls Try.prog 7 #[.int .i64 101, .int .u64 a, .int .u64 b] w (fun e w' => e = .returned (.tuple #[.int .u64 1, .int .i64 0]) ∧ w = w') := fun w => by have := do_101 a b w; rw [glt, geq] at this; exact this
  have c164 : ∀ w, Calls Try.prog 7 #[.int .i64 164, .int .u64 a, .int .u64 b] w (DoEnd a w) := fun w => by have := do_164_eqs a b w ha hb ho hs; rw [show max a 0 = a by omega] at this; exact this
  have c165 : ∀ w, Calls Try.prog 7 #[.int .i64 165, .int .u64 a, .int .u64 b] w (DoEnd b w) := fun w => by have := do_165_eqs a b w ha hb ho hs; rw [show max b 0 = b by omega] at this; exact this
  have n1 : ∀ w, Calls Try.prog 8 #[.int .u64 a] w (fun e w' => e = .returned (.bool false) ∧ w = w') := fun w => by have := naN_any a w; rw [ha] at this; exact this
  have n2 : ∀ w, Calls Try.prog 8 #[.int .u64 b] w (fun e w' => e = .returned (.bool false) ∧ w = w') := fun w => by have := naN_any b w; rw [hb] at this; exact this
  have Hc99 := Lib.hid c99; clear c99
  have Hc100 := Lib.hid c100; clear c100
  have Hc97 := Lib.hid c97; clear c97
  have Hc98 := Lib.hid c98; clear c98
  have Hc101 := Lib.hid c101; clear c101
  have Hc164 := Lib.hid c164; clear c164
  have Hc165 := Lib.hid c165; clear c165
  have Hn1 := Lib.hid n1; clear n1
  have Hn2 := Lib.hid n2; clear n2
  clear ha glt ggt geq a0 b0 hb ho hs
  go_enter Try.func3, Try.ntmps3
  go_wp2_with fail
  refine (Hc99.out _).mono ?_
  rintro e w' ⟨rfl, rfl⟩
  go_wp2_with fail
  refine (Hc100.out _).mono ?_
  rintro e w' ⟨rfl, rfl⟩
  go_wp2_with fail
  refine (Hc97.out _).mono ?_
  rintro e w' ⟨rfl, rfl⟩
  go_wp2_with fail
  refine (Hc98.out _).mono ?_
  rintro e w' ⟨rfl, rfl⟩
  go_wp2_with fail
  refine (Hc101.out _).mono ?_
  rintro e w' ⟨rfl, rfl⟩
  go_wp2_with fail
  refine (Hc164.out _).mono ?_
  rintro e w' ⟨rfl, n0, rfl⟩
  go_wp2_with fail
  refine (Hc165.out _).mono ?_
  rintro e w' ⟨rfl, n1, rfl⟩
  go_wp2_with fail
  refine (Hn1.out _).mono ?_
  rintro e w' ⟨rfl, rfl⟩
  go_wp2_with fail
  refine (Hn2.out _).mono ?_
  rintro e w' ⟨rfl, rfl⟩
  go_wp2_with fail
  refine (known_true _).mono ?_
  rintro e w' ⟨rfl, hg⟩
  have Hg := Lib.hid hg; clear hg
  go_wp2_with fail
  go_ret
  exact ⟨rfl, grown_trans (grown_drewN (Grown.refl _) _) Hg.out⟩
theorem order_eqn (a b : Int) (a0 : 0 ≤ a) (b0 : 0 ≤ b) (ha : nanB a.toNat = false) (hb : nanB b.toNat = false) (ho : FloatKind.f64.format.order a.toNat b.toNat = some .eq) (hs : sgnB a.toNat = false) (w : World) : Calls Try.prog 3 #[.int .u64 a, .int .u64 b] w fun e w' => e = .returned (.bool true) ∧ Grown w w' := by
  have glt : ordB a.toNat b.toNat .lt = false := by unfold ordB; rw [ho]; rfl
  have ggt : ordB a.toNat b.toNat .gt = false := by unfold ordB; rw [ho]; rfl
  have geq : ordB a.toNat b.toNat .eq = true := by unfold ordB; rw [ho]; rfl
  have c99 : ∀ w, Calls Try.prog 7 #[.int .i64 99, .int .u64 a, .int .u64 b] w (fun e w' => e = .returned (.tuple #[.int .u64 0, .int .i64 0]) ∧ w = w') := fun w => by have := do_99 a b w; rw [glt] at this; exact this
  have c100 : ∀ w, Calls Try.prog 7 #[.int .i64 100, .int .u64 a, .int .u64 b] w (fun e w' => e = .returned (.tuple #[.int .u64 0, .int .i64 0]) ∧ w = w') := fun w => by have := do_100 a b w; rw [ggt] at this; exact this
  have c97 : ∀ w, Calls Try.prog 7 #[.int .i64 97, .int .u64 a, .int .u64 b] w (fun e w' => e = .returned (.tuple #[.int .u64 1, .int .i64 0]) ∧ w = w') := fun w => by have := do_97 a b w; rw [geq] at this; exact this
  have c98 : ∀ w, Calls Try.prog 7 #[.int .i64 98, .int .u64 a, .int .u64 b] w (fun e w' => e = .returned (.tuple #[.int .u64 0, .int .i64 0]) ∧ w = w') := fun w => by have := do_98 a b w; rw [geq] at this; exact this
  have c101 : ∀ w, Calls Try.prog 7 #[.int .i64 101, .int .u64 a, .int .u64 b] w (fun e w' => e = .returned (.tuple #[.int .u64 1, .int .i64 0]) ∧ w = w') := fun w => by have := do_101 a b w; rw [glt, geq] at this; exact this
  have c164 : ∀ w, Calls Try.prog 7 #[.int .i64 164, .int .u64 a, .int .u64 b] w (DoEnd b w) := fun w => by have := do_164_eqn a b w ha hb ho hs; rw [show max b 0 = b by omega] at this; exact this
  have c165 : ∀ w, Calls Try.prog 7 #[.int .i64 165, .int .u64 a, .int .u64 b] w (DoEnd a w) := fun w => by have := do_165_eqn a b w ha hb ho hs; rw [show max a 0 = a by omega] at this; exact this
  have n1 : ∀ w, Calls Try.prog 8 #[.int .u64 a] w (fun e w' => e = .returned (.bool false) ∧ w = w') := fun w => by have := naN_any a w; rw [ha] at this; exact this
  have n2 : ∀ w, Calls Try.prog 8 #[.int .u64 b] w (fun e w' => e = .returned (.bool false) ∧ w = w') := fun w => by have := naN_any b w; rw [hb] at this; exact this
  have Hc99 := Lib.hid c99; clear c99
  have Hc100 := Lib.hid c100; clear c100
  have Hc97 := Lib.hid c97; clear c97
  have Hc98 := Lib.hid c98; clear c98
  have Hc101 := Lib.hid c101; clear c101
  have Hc164 := Lib.hid c164; clear c164
  have Hc165 := Lib.hid c165; clear c165
  have Hn1 := Lib.hid n1; clear n1
  have Hn2 := Lib.hid n2; clear n2
  clear ha glt ggt geq a0 b0 hb ho hs
  rcases Decidable.em (b = a) with hab | hab
  all_goals first | subst hab | (have hn : (b == a) = false := by simpa using hab)
  all_goals try clear hab
  all_goals
    go_enter Try.func3, Try.ntmps3
    go_wp2_with fail
    refine (Hc99.out _).mono ?_
    rintro e w' ⟨rfl, rfl⟩
    go_wp2_with fail
    refine (Hc100.out _).mono ?_
    rintro e w' ⟨rfl, rfl⟩
    go_wp2_with fail
    refine (Hc97.out _).mono ?_
    rintro e w' ⟨rfl, rfl⟩
    go_wp2_with fail
    refine (Hc98.out _).mono ?_
    rintro e w' ⟨rfl, rfl⟩
    go_wp2_with fail
    refine (Hc101.out _).mono ?_
    rintro e w' ⟨rfl, rfl⟩
    go_wp2_with fail
    refine (Hc164.out _).mono ?_
    rintro e w' ⟨rfl, n0, rfl⟩
    go_wp2_with fail
    refine (Hc165.out _).mono ?_
    rintro e w' ⟨rfl, n1, rfl⟩
    go_wp2_with fail
    refine (Hn1.out _).mono ?_
    rintro e w' ⟨rfl, rfl⟩
    go_wp2_with fail
    refine (Hn2.out _).mono ?_
    rintro e w' ⟨rfl, rfl⟩
    go_wp2_with fail
    refine (known_true _).mono ?_
    rintro e w' ⟨rfl, hg⟩
    have Hg := Lib.hid hg; clear hg
    go_wp2_with fail
    go_ret
    exact ⟨rfl, grown_trans (grown_drewN (Grown.refl _) _) Hg.out⟩
theorem order_walk (a b : Int) (a0 : 0 ≤ a) (b0 : 0 ≤ b) (w : World) : Calls Try.prog 3 #[.int .u64 a, .int .u64 b] w fun e w' => e = .returned (.bool true) ∧ Grown w w' := by
  cases ha : nanB a.toNat with
  | true => exact order_nana a b ha w
  | false =>
    cases hb : nanB b.toNat with
    | true => exact order_nanb a b ha hb w
    | false =>
      obtain ⟨o, ho⟩ := ord_num ha hb
      cases o with
      | lt => exact order_lt a b a0 b0 ha hb ho w
      | gt => exact order_gt a b a0 b0 ha hb ho w
      | eq =>
        cases hs : sgnB a.toNat with
        | true => exact order_eqs a b a0 b0 ha hb ho hs w
        | false => exact order_eqn a b a0 b0 ha hb ho hs w

end Go.Proofs.Ytdfjkollehhljaa
