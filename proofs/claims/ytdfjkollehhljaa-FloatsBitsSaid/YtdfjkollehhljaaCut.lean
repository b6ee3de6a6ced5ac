/- The walk: floats.cut, one theorem an op and a way through it. -/
import Derived.Test.YtdfjkollehhljaaForm
namespace Go.Proofs.Ytdfjkollehhljaa
open Go.RowKit
/-- An end of Do: a number, a trap or none; of what was there nothing turns. -/
def CutEnd (v t : Int) (w : World) (e : Ending) (w' : World) : Prop := e = .returned (.tuple #[.int .u64 v, .int .i64 t]) ∧ Grown w w'
/-- Is one not less than the other one? Is it less? -/
def geB (x y : Nat) : Bool := FloatKind.f64.format.order x y == some .gt || FloatKind.f64.format.order x y == some .eq
def ltB (x y : Nat) : Bool := FloatKind.f64.format.order x y == some .lt
theorem cut_170_nan (x : Nat) (w : World) (h : nanB x = true) : Calls Try.prog 18 #[.int .i64 170, .float .f64 x] w (CutEnd 0 4 w) := by
  have H := Lib.hid h
  go_enter Try.func18, Try.ntmps18
  go_wp2_with (first | (go_at_call 27; refine (form_170 _).mono ?_; rintro e w' ⟨rfl, rfl⟩) | (go_at_call 22; refine (trunc_nan _ H.out).mono ?_; rintro e w' ⟨c, n, hc, rfl, rfl⟩; have Hc := Lib.hid hc; clear hc) | (go_at_call 19; refine (isNaN_any _ _).mono ?_; rintro e w' ⟨rfl, rfl⟩))
  go_ret2
  exact ⟨rfl, (by repeat (first | exact Grown.refl _ | apply grown_drewN | apply Grown.drew | apply Grown.alloc | refine Grown.setCell ?_ (by first | exact Nat.le_refl _ | (simp; done)) _))⟩
theorem cut_170_in (x : Nat) (n : Int) (w : World) (h : nanB x = false) (h1 : geB (flr .zero x) 13970166044103278592 = true) (h2 : ltB (flr .zero x) 4746794007248502784 = true) (hi : floatToIntVal .f64 (flr .zero x) .i64 = some n) : Calls Try.prog 18 #[.int .i64 170, .float .f64 x] w (CutEnd (IntKind.u64.wrap (IntKind.u64.wrap n * 4294967296) / 4294967296) 0 w) := by
  have Ht := Lib.hid (fun w => trunc_num w h)
  have Ho := fun w => Lib.hid (of_s32 (flr .zero x) n w hi)
  have f1 : (FloatKind.f64.format.order (flr .zero x) 13970166044103278592 == some .gt || FloatKind.f64.format.order (flr .zero x) 13970166044103278592 == some .eq) = true := h1
  have f2 : (FloatKind.f64.format.order (flr .zero x) 4746794007248502784 == some .lt) = true := h2
  clear h1 h2 hi
  generalize flr .zero x = t at *
  go_enter Try.func18, Try.ntmps18
  go_wp2_with (first | (go_at_call 27; refine (form_170 _).mono ?_; rintro e w' ⟨rfl, rfl⟩) | (go_at_call 22; refine (Ht.out _).mono ?_; rintro e w' ⟨rfl, rfl⟩) | (go_at_call 19; refine (isNaN_any _ _).mono ?_; rintro e w' ⟨rfl, rfl⟩) | (go_at_call 28; refine (Ho _).out.mono ?_; rintro e w' ⟨rfl, m, rfl⟩))
  go_ret2
  exact ⟨rfl, (by repeat (first | exact Grown.refl _ | apply grown_drewN | apply Grown.drew | apply Grown.alloc | refine Grown.setCell ?_ (by first | exact Nat.le_refl _ | (simp; done)) _))⟩
theorem cut_170_lo (x : Nat) (w : World) (h : nanB x = false) (h1 : geB (flr .zero x) 13970166044103278592 = false) (h2 : ltB (flr .zero x) 4746794007248502784 = true) (h3 : geB (flr .zero x) 4746794007248502784 = false) : Calls Try.prog 18 #[.int .i64 170, .float .f64 x] w (CutEnd 0 3 w) := by
  have Ht := Lib.hid (fun w => trunc_num w h)
  have f1 : (FloatKind.f64.format.order (flr .zero x) 13970166044103278592 == some .gt || FloatKind.f64.format.order (flr .zero x) 13970166044103278592 == some .eq) = false := h1
  have f2 : (FloatKind.f64.format.order (flr .zero x) 4746794007248502784 == some .lt) = true := h2
  have f3 : (FloatKind.f64.format.order (flr .zero x) 4746794007248502784 == some .gt || FloatKind.f64.format.order (flr .zero x) 4746794007248502784 == some .eq) = false := h3
  clear h1 h2 h3
  generalize flr .zero x = t at *
  go_enter Try.func18, Try.ntmps18
  go_wp2_with (first | (go_at_call 27; refine (form_170 _).mono ?_; rintro e w' ⟨rfl, rfl⟩) | (go_at_call 22; refine (Ht.out _).mono ?_; rintro e w' ⟨rfl, rfl⟩) | (go_at_call 19; refine (isNaN_any _ _).mono ?_; rintro e w' ⟨rfl, rfl⟩) | (go_at_call 29; refine (edge_s32_false _).mono ?_; rintro e w' ⟨rfl, rfl⟩))
  go_ret2
  exact ⟨rfl, (by repeat (first | exact Grown.refl _ | apply grown_drewN | apply Grown.drew | apply Grown.alloc | refine Grown.setCell ?_ (by first | exact Nat.le_refl _ | (simp; done)) _))⟩
theorem cut_170_hi (x : Nat) (w : World) (h : nanB x = false) (h1 : geB (flr .zero x) 13970166044103278592 = true) (h2 : ltB (flr .zero x) 4746794007248502784 = false) (h3 : geB (flr .zero x) 4746794007248502784 = true) : Calls Try.prog 18 #[.int .i64 170, .float .f64 x] w (CutEnd 0 3 w) := by
  have Ht := Lib.hid (fun w => trunc_num w h)
  have f1 : (FloatKind.f64.format.order (flr .zero x) 13970166044103278592 == some .gt || FloatKind.f64.format.order (flr .zero x) 13970166044103278592 == some .eq) = true := h1
  have f2 : (FloatKind.f64.format.order (flr .zero x) 4746794007248502784 == some .lt) = false := h2
  have f3 : (FloatKind.f64.format.order (flr .zero x) 4746794007248502784 == some .gt || FloatKind.f64.format.order (flr .zero x) 4746794007248502784 == some .eq) = true := h3
  clear h1 h2 h3
  generalize flr .zero x = t at *
  go_enter Try.func18, Try.ntmps18
  go_wp2_with (first | (go_at_call 27; refine (form_170 _).mono ?_; rintro e w' ⟨rfl, rfl⟩) | (go_at_call 22; refine (Ht.out _).mono ?_; rintro e w' ⟨rfl, rfl⟩) | (go_at_call 19; refine (isNaN_any _ _).mono ?_; rintro e w' ⟨rfl, rfl⟩) | (go_at_call 29; refine (edge_s32_true _).mono ?_; rintro e w' ⟨rfl, rfl⟩))
  go_ret2
  exact ⟨rfl, (by repeat (first | exact Grown.refl _ | apply grown_drewN | apply Grown.drew | apply Grown.alloc | refine Grown.setCell ?_ (by first | exact Nat.le_refl _ | (simp; done)) _))⟩
theorem cut_64514_nan (x : Nat) (w : World) (h : nanB x = true) : Calls Try.prog 18 #[.int .i64 64514, .float .f64 x] w (CutEnd 0 0 w) := by
  have H := Lib.hid h
  go_enter Try.func18, Try.ntmps18
  go_wp2_with (first | (go_at_call 27; refine (form_64514 _).mono ?_; rintro e w' ⟨rfl, rfl⟩) | (go_at_call 22; refine (trunc_nan _ H.out).mono ?_; rintro e w' ⟨c, n, hc, rfl, rfl⟩; have Hc := Lib.hid hc; clear hc) | (go_at_call 19; refine (isNaN_any _ _).mono ?_; rintro e w' ⟨rfl, rfl⟩))
  go_ret2
  exact ⟨rfl, (by repeat (first | exact Grown.refl _ | apply grown_drewN | apply Grown.drew | apply Grown.alloc | refine Grown.setCell ?_ (by first | exact Nat.le_refl _ | (simp; done)) _))⟩
theorem cut_64514_in (x : Nat) (n : Int) (w : World) (h : nanB x = false) (h1 : geB (flr .zero x) 13970166044103278592 = true) (h2 : ltB (flr .zero x) 4746794007248502784 = true) (hi : floatToIntVal .f64 (flr .zero x) .i64 = some n) : Calls Try.prog 18 #[.int .i64 64514, .float .f64 x] w (CutEnd (IntKind.u64.wrap (IntKind.u64.wrap n * 4294967296) / 4294967296) 0 w) := by
  have Ht := Lib.hid (fun w => trunc_num w h)
  have Ho := fun w => Lib.hid (of_s32 (flr .zero x) n w hi)
  have f1 : (FloatKind.f64.format.order (flr .zero x) 13970166044103278592 == some .gt || FloatKind.f64.format.order (flr .zero x) 13970166044103278592 == some .eq) = true := h1
  have f2 : (FloatKind.f64.format.order (flr .zero x) 4746794007248502784 == some .lt) = true := h2
  clear h1 h2 hi
  generalize flr .zero x = t at *
  go_enter Try.func18, Try.ntmps18
  go_wp2_with (first | (go_at_call 27; refine (form_64514 _).mono ?_; rintro e w' ⟨rfl, rfl⟩) | (go_at_call 22; refine (Ht.out _).mono ?_; rintro e w' ⟨rfl, rfl⟩) | (go_at_call 19; refine (isNaN_any _ _).mono ?_; rintro e w' ⟨rfl, rfl⟩) | (go_at_call 28; refine (Ho _).out.mono ?_; rintro e w' ⟨rfl, m, rfl⟩))
  go_ret2
  exact ⟨rfl, (by repeat (first | exact Grown.refl _ | apply grown_drewN | apply Grown.drew | apply Grown.alloc | refine Grown.setCell ?_ (by first | exact Nat.le_refl _ | (simp; done)) _))⟩
theorem cut_64514_lo (x : Nat) (w : World) (h : nanB x = false) (h1 : geB (flr .zero x) 13970166044103278592 = false) (h2 : ltB (flr .zero x) 4746794007248502784 = true) (h3 : geB (flr .zero x) 4746794007248502784 = false) : Calls Try.prog 18 #[.int .i64 64514, .float .f64 x] w (CutEnd 2147483648 0 w) := by
  have Ht := Lib.hid (fun w => trunc_num w h)
  have f1 : (FloatKind.f64.format.order (flr .zero x) 13970166044103278592 == some .gt || FloatKind.f64.format.order (flr .zero x) 13970166044103278592 == some .eq) = false := h1
  have f2 : (FloatKind.f64.format.order (flr .zero x) 4746794007248502784 == some .lt) = true := h2
  have f3 : (FloatKind.f64.format.order (flr .zero x) 4746794007248502784 == some .gt || FloatKind.f64.format.order (flr .zero x) 4746794007248502784 == some .eq) = false := h3
  clear h1 h2 h3
  generalize flr .zero x = t at *
  go_enter Try.func18, Try.ntmps18
  go_wp2_with (first | (go_at_call 27; refine (form_64514 _).mono ?_; rintro e w' ⟨rfl, rfl⟩) | (go_at_call 22; refine (Ht.out _).mono ?_; rintro e w' ⟨rfl, rfl⟩) | (go_at_call 19; refine (isNaN_any _ _).mono ?_; rintro e w' ⟨rfl, rfl⟩) | (go_at_call 29; refine (edge_s32_false _).mono ?_; rintro e w' ⟨rfl, rfl⟩))
  go_ret2
  exact ⟨rfl, (by repeat (first | exact Grown.refl _ | apply grown_drewN | apply Grown.drew | apply Grown.alloc | refine Grown.setCell ?_ (by first | exact Nat.le_refl _ | (simp; done)) _))⟩
theorem cut_64514_hi (x : Nat) (w : World) (h : nanB x = false) (h1 : geB (flr .zero x) 13970166044103278592 = true) (h2 : ltB (flr .zero x) 4746794007248502784 = false) (h3 : geB (flr .zero x) 4746794007248502784 = true) : Calls Try.prog 18 #[.int .i64 64514, .float .f64 x] w (CutEnd 2147483647 0 w) := by
  have Ht := Lib.hid (fun w => trunc_num w h)
  have f1 : (FloatKind.f64.format.order (flr .zero x) 13970166044103278592 == some .gt || FloatKind.f64.format.order (flr .zero x) 13970166044103278592 == some .eq) = true := h1
  have f2 : (FloatKind.f64.format.order (flr .zero x) 4746794007248502784 == some .lt) = false := h2
  have f3 : (FloatKind.f64.format.order (flr .zero x) 4746794007248502784 == some .gt || FloatKind.f64.format.order (flr .zero x) 4746794007248502784 == some .eq) = true := h3
  clear h1 h2 h3
  generalize flr .zero x = t at *
  go_enter Try.func18, Try.ntmps18
  go_wp2_with (first | (go_at_call 27; refine (form_64514 _).mono ?_; rintro e w' ⟨rfl, rfl⟩) | (go_at_call 22; refine (Ht.out _).mono ?_; rintro e w' ⟨rfl, rfl⟩) | (go_at_call 19; refine (isNaN_any _ _).mono ?_; rintro e w' ⟨rfl, rfl⟩) | (go_at_call 29; refine (edge_s32_true _).mono ?_; rintro e w' ⟨rfl, rfl⟩))
  go_ret2
  exact ⟨rfl, (by repeat (first | exact Grown.refl _ | apply grown_drewN | apply Grown.drew | apply Grown.alloc | refine Grown.setCell ?_ (by first | exact Nat.le_refl _ | (simp; done)) _))⟩
theorem cut_171_nan (x : Nat) (w : World) (h : nanB x = true) : Calls Try.prog 18 #[.int .i64 171, .float .f64 x] w (CutEnd 0 4 w) := by
  have H := Lib.hid h
  go_enter Try.func18, Try.ntmps18
  go_wp2_with (first | (go_at_call 27; refine (form_171 _).mono ?_; rintro e w' ⟨rfl, rfl⟩) | (go_at_call 22; refine (trunc_nan _ H.out).mono ?_; rintro e w' ⟨c, n, hc, rfl, rfl⟩; have Hc := Lib.hid hc; clear hc) | (go_at_call 19; refine (isNaN_any _ _).mono ?_; rintro e w' ⟨rfl, rfl⟩))
  go_ret2
  exact ⟨rfl, (by repeat (first | exact Grown.refl _ | apply grown_drewN | apply Grown.drew | apply Grown.alloc | refine Grown.setCell ?_ (by first | exact Nat.le_refl _ | (simp; done)) _))⟩
theorem cut_171_in (x : Nat) (n : Int) (w : World) (h : nanB x = false) (h1 : geB (flr .zero x) 0 = true) (h2 : ltB (flr .zero x) 4751297606875873280 = true) (hi : floatToIntVal .f64 (flr .zero x) .i64 = some n) (hg : geB (flr .zero x) 4890909195324358656 = false) : Calls Try.prog 18 #[.int .i64 171, .float .f64 x] w (CutEnd (IntKind.u64.wrap (IntKind.u64.wrap n * 4294967296) / 4294967296) 0 w) := by
  have Ht := Lib.hid (fun w => trunc_num w h)
  have Ho := fun w => Lib.hid (of_u32 (flr .zero x) n w hi hg)
  have f1 : (FloatKind.f64.format.order (flr .zero x) 0 == some .gt || FloatKind.f64.format.order (flr .zero x) 0 == some .eq) = true := h1
  have f2 : (FloatKind.f64.format.order (flr .zero x) 4751297606875873280 == some .lt) = true := h2
  clear h1 h2 hi hg
  generalize flr .zero x = t at *
  go_enter Try.func18, Try.ntmps18
  go_wp2_with (first | (go_at_call 27; refine (form_171 _).mono ?_; rintro e w' ⟨rfl, rfl⟩) | (go_at_call 22; refine (Ht.out _).mono ?_; rintro e w' ⟨rfl, rfl⟩) | (go_at_call 19; refine (isNaN_any _ _).mono ?_; rintro e w' ⟨rfl, rfl⟩) | (go_at_call 28; refine (Ho _).out.mono ?_; rintro e w' ⟨rfl, m, rfl⟩))
  go_ret2
  exact ⟨rfl, (by repeat (first | exact Grown.refl _ | apply grown_drewN | apply Grown.drew | apply Grown.alloc | refine Grown.setCell ?_ (by first | exact Nat.le_refl _ | (simp; done)) _))⟩
theorem cut_171_lo (x : Nat) (w : World) (h : nanB x = false) (h1 : geB (flr .zero x) 0 = false) (h2 : ltB (flr .zero x) 4751297606875873280 = true) (h3 : geB (flr .zero x) 4751297606875873280 = false) : Calls Try.prog 18 #[.int .i64 171, .float .f64 x] w (CutEnd 0 3 w) := by
  have Ht := Lib.hid (fun w => trunc_num w h)
  have f1 : (FloatKind.f64.format.order (flr .zero x) 0 == some .gt || FloatKind.f64.format.order (flr .zero x) 0 == some .eq) = false := h1
  have f2 : (FloatKind.f64.format.order (flr .zero x) 4751297606875873280 == some .lt) = true := h2
  have f3 : (FloatKind.f64.format.order (flr .zero x) 4751297606875873280 == some .gt || FloatKind.f64.format.order (flr .zero x) 4751297606875873280 == some .eq) = false := h3
  clear h1 h2 h3
  generalize flr .zero x = t at *
  go_enter Try.func18, Try.ntmps18
  go_wp2_with (first | (go_at_call 27; refine (form_171 _).mono ?_; rintro e w' ⟨rfl, rfl⟩) | (go_at_call 22; refine (Ht.out _).mono ?_; rintro e w' ⟨rfl, rfl⟩) | (go_at_call 19; refine (isNaN_any _ _).mono ?_; rintro e w' ⟨rfl, rfl⟩) | (go_at_call 29; refine (edge_u32_false _).mono ?_; rintro e w' ⟨rfl, rfl⟩))
  go_ret2
  exact ⟨rfl, (by repeat (first | exact Grown.refl _ | apply grown_drewN | apply Grown.drew | apply Grown.alloc | refine Grown.setCell ?_ (by first | exact Nat.le_refl _ | (simp; done)) _))⟩
theorem cut_171_hi (x : Nat) (w : World) (h : nanB x = false) (h1 : geB (flr .zero x) 0 = true) (h2 : ltB (flr .zero x) 4751297606875873280 = false) (h3 : geB (flr .zero x) 4751297606875873280 = true) : Calls Try.prog 18 #[.int .i64 171, .float .f64 x] w (CutEnd 0 3 w) := by
  have Ht := Lib.hid (fun w => trunc_num w h)
  have f1 : (FloatKind.f64.format.order (flr .zero x) 0 == some .gt || FloatKind.f64.format.order (flr .zero x) 0 == some .eq) = true := h1
  have f2 : (FloatKind.f64.format.order (flr .zero x) 4751297606875873280 == some .lt) = false := h2
  have f3 : (FloatKind.f64.format.order (flr .zero x) 4751297606875873280 == some .gt || FloatKind.f64.format.order (flr .zero x) 4751297606875873280 == some .eq) = true := h3
  clear h1 h2 h3
  generalize flr .zero x = t at *
  go_enter Try.func18, Try.ntmps18
  go_wp2_with (first | (go_at_call 27; refine (form_171 _).mono ?_; rintro e w' ⟨rfl, rfl⟩) | (go_at_call 22; refine (Ht.out _).mono ?_; rintro e w' ⟨rfl, rfl⟩) | (go_at_call 19; refine (isNaN_any _ _).mono ?_; rintro e w' ⟨rfl, rfl⟩) | (go_at_call 29; refine (edge_u32_true _).mono ?_; rintro e w' ⟨rfl, rfl⟩))
  go_ret2
  exact ⟨rfl, (by repeat (first | exact Grown.refl _ | apply grown_drewN | apply Grown.drew | apply Grown.alloc | refine Grown.setCell ?_ (by first | exact Nat.le_refl _ | (simp; done)) _))⟩
theorem cut_64515_nan (x : Nat) (w : World) (h : nanB x = true) : Calls Try.prog 18 #[.int .i64 64515, .float .f64 x] w (CutEnd 0 0 w) := by
  have H := Lib.hid h
  go_enter Try.func18, Try.ntmps18
  go_wp2_with (first | (go_at_call 27; refine (form_64515 _).mono ?_; rintro e w' ⟨rfl, rfl⟩) | (go_at_call 22; refine (trunc_nan _ H.out).mono ?_; rintro e w' ⟨c, n, hc, rfl, rfl⟩; have Hc := Lib.hid hc; clear hc) | (go_at_call 19; refine (isNaN_any _ _).mono ?_; rintro e w' ⟨rfl, rfl⟩))
  go_ret2
  exact ⟨rfl, (by repeat (first | exact Grown.refl _ | apply grown_drewN | apply Grown.drew | apply Grown.alloc | refine Grown.setCell ?_ (by first | exact Nat.le_refl _ | (simp; done)) _))⟩
theorem cut_64515_in (x : Nat) (n : Int) (w : World) (h : nanB x = false) (h1 : geB (flr .zero x) 0 = true) (h2 : ltB (flr .zero x) 4751297606875873280 = true) (hi : floatToIntVal .f64 (flr .zero x) .i64 = some n) (hg : geB (flr .zero x) 4890909195324358656 = false) : Calls Try.prog 18 #[.int .i64 64515, .float .f64 x] w (CutEnd (IntKind.u64.wrap (IntKind.u64.wrap n * 4294967296) / 4294967296) 0 w) := by
  have Ht := Lib.hid (fun w => trunc_num w h)
  have Ho := fun w => Lib.hid (of_u32 (flr .zero x) n w hi hg)
  have f1 : (FloatKind.f64.format.order (flr .zero x) 0 == some .gt || FloatKind.f64.format.order (flr .zero x) 0 == some .eq) = true := h1
  have f2 : (FloatKind.f64.format.order (flr .zero x) 4751297606875873280 == some .lt) = true := h2
  clear h1 h2 hi hg
  generalize flr .zero x = t at *
  go_enter Try.func18, Try.ntmps18
  go_wp2_with (first | (go_at_call 27; refine (form_64515 _).mono ?_; rintro e w' ⟨rfl, rfl⟩) | (go_at_call 22; refine (Ht.out _).mono ?_; rintro e w' ⟨rfl, rfl⟩) | (go_at_call 19; refine (isNaN_any _ _).mono ?_; rintro e w' ⟨rfl, rfl⟩) | (go_at_call 28; refine (Ho _).out.mono ?_; rintro e w' ⟨rfl, m, rfl⟩))
  go_ret2
  exact ⟨rfl, (by repeat (first | exact Grown.refl _ | apply grown_drewN | apply Grown.drew | apply Grown.alloc | refine Grown.setCell ?_ (by first | exact Nat.le_refl _ | (simp; done)) _))⟩
theorem cut_64515_lo (x : Nat) (w : World) (h : nanB x = false) (h1 : geB (flr .zero x) 0 = false) (h2 : ltB (flr .zero x) 4751297606875873280 = true) (h3 : geB (flr .zero x) 4751297606875873280 = false) : Calls Try.prog 18 #[.int .i64 64515, .float .f64 x] w (CutEnd 0 0 w) := by
  have Ht := Lib.hid (fun w => trunc_num w h)
  have f1 : (FloatKind.f64.format.order (flr .zero x) 0 == some .gt || FloatKind.f64.format.order (flr .zero x) 0 == some .eq) = false := h1
  have f2 : (FloatKind.f64.format.order (flr .zero x) 4751297606875873280 == some .lt) = true := h2
  have f3 : (FloatKind.f64.format.order (flr .zero x) 4751297606875873280 == some .gt || FloatKind.f64.format.order (flr .zero x) 4751297606875873280 == some .eq) = false := h3
  clear h1 h2 h3
  generalize flr .zero x = t at *
  go_enter Try.func18, Try.ntmps18
  go_wp2_with (first | (go_at_call 27; refine (form_64515 _).mono ?_; rintro e w' ⟨rfl, rfl⟩) | (go_at_call 22; refine (Ht.out _).mono ?_; rintro e w' ⟨rfl, rfl⟩) | (go_at_call 19; refine (isNaN_any _ _).mono ?_; rintro e w' ⟨rfl, rfl⟩) | (go_at_call 29; refine (edge_u32_false _).mono ?_; rintro e w' ⟨rfl, rfl⟩))
  go_ret2
  exact ⟨rfl, (by repeat (first | exact Grown.refl _ | apply grown_drewN | apply Grown.drew | apply Grown.alloc | refine Grown.setCell ?_ (by first | exact Nat.le_refl _ | (simp; done)) _))⟩
theorem cut_64515_hi (x : Nat) (w : World) (h : nanB x = false) (h1 : geB (flr .zero x) 0 = true) (h2 : ltB (flr .zero x) 4751297606875873280 = false) (h3 : geB (flr .zero x) 4751297606875873280 = true) : Calls Try.prog 18 #[.int .i64 64515, .float .f64 x] w (CutEnd 4294967295 0 w) := by
  have Ht := Lib.hid (fun w => trunc_num w h)
  have f1 : (FloatKind.f64.format.order (flr .zero x) 0 == some .gt || FloatKind.f64.format.order (flr .zero x) 0 == some .eq) = true := h1
  have f2 : (FloatKind.f64.format.order (flr .zero x) 4751297606875873280 == some .lt) = false := h2
  have f3 : (FloatKind.f64.format.order (flr .zero x) 4751297606875873280 == some .gt || FloatKind.f64.format.order (flr .zero x) 4751297606875873280 == some .eq) = true := h3
  clear h1 h2 h3
  generalize flr .zero x = t at *
  go_enter Try.func18, Try.ntmps18
  go_wp2_with (first | (go_at_call 27; refine (form_64515 _).mono ?_; rintro e w' ⟨rfl, rfl⟩) | (go_at_call 22; refine (Ht.out _).mono ?_; rintro e w' ⟨rfl, rfl⟩) | (go_at_call 19; refine (isNaN_any _ _).mono ?_; rintro e w' ⟨rfl, rfl⟩) | (go_at_call 29; refine (edge_u32_true _).mono ?_; rintro e w' ⟨rfl, rfl⟩))
  go_ret2
  exact ⟨rfl, (by repeat (first | exact Grown.refl _ | apply grown_drewN | apply Grown.drew | apply Grown.alloc | refine Grown.setCell ?_ (by first | exact Nat.le_refl _ | (simp; done)) _))⟩
theorem cut_176_nan (x : Nat) (w : World) (h : nanB x = true) : Calls Try.prog 18 #[.int .i64 176, .float .f64 x] w (CutEnd 0 4 w) := by
  have H := Lib.hid h
  go_enter Try.func18, Try.ntmps18
  go_wp2_with (first | (go_at_call 27; refine (form_176 _).mono ?_; rintro e w' ⟨rfl, rfl⟩) | (go_at_call 22; refine (trunc_nan _ H.out).mono ?_; rintro e w' ⟨c, n, hc, rfl, rfl⟩; have Hc := Lib.hid hc; clear hc) | (go_at_call 19; refine (isNaN_any _ _).mono ?_; rintro e w' ⟨rfl, rfl⟩))
  go_ret2
  exact ⟨rfl, (by repeat (first | exact Grown.refl _ | apply grown_drewN | apply Grown.drew | apply Grown.alloc | refine Grown.setCell ?_ (by first | exact Nat.le_refl _ | (simp; done)) _))⟩
theorem cut_176_in (x : Nat) (n : Int) (w : World) (h : nanB x = false) (h1 : geB (flr .zero x) 14114281232179134464 = true) (h2 : ltB (flr .zero x) 4890909195324358656 = true) (hi : floatToIntVal .f64 (flr .zero x) .i64 = some n) : Calls Try.prog 18 #[.int .i64 176, .float .f64 x] w (CutEnd (IntKind.u64.wrap (IntKind.u64.wrap n)) 0 w) := by
  have Ht := Lib.hid (fun w => trunc_num w h)
  have Ho := fun w => Lib.hid (of_s64 (flr .zero x) n w hi)
  have f1 : (FloatKind.f64.format.order (flr .zero x) 14114281232179134464 == some .gt || FloatKind.f64.format.order (flr .zero x) 14114281232179134464 == some .eq) = true := h1
  have f2 : (FloatKind.f64.format.order (flr .zero x) 4890909195324358656 == some .lt) = true := h2
  clear h1 h2 hi
  generalize flr .zero x = t at *
  go_enter Try.func18, Try.ntmps18
  go_wp2_with (first | (go_at_call 27; refine (form_176 _).mono ?_; rintro e w' ⟨rfl, rfl⟩) | (go_at_call 22; refine (Ht.out _).mono ?_; rintro e w' ⟨rfl, rfl⟩) | (go_at_call 19; refine (isNaN_any _ _).mono ?_; rintro e w' ⟨rfl, rfl⟩) | (go_at_call 28; refine (Ho _).out.mono ?_; rintro e w' ⟨rfl, m, rfl⟩))
  go_ret2
  exact ⟨rfl, (by repeat (first | exact Grown.refl _ | apply grown_drewN | apply Grown.drew | apply Grown.alloc | refine Grown.setCell ?_ (by first | exact Nat.le_refl _ | (simp; done)) _))⟩
theorem cut_176_lo (x : Nat) (w : World) (h : nanB x = false) (h1 : geB (flr .zero x) 14114281232179134464 = false) (h2 : ltB (flr .zero x) 4890909195324358656 = true) (h3 : geB (flr .zero x) 4890909195324358656 = false) : Calls Try.prog 18 #[.int .i64 176, .float .f64 x] w (CutEnd 0 3 w) := by
  have Ht := Lib.hid (fun w => trunc_num w h)
  have f1 : (FloatKind.f64.format.order (flr .zero x) 14114281232179134464 == some .gt || FloatKind.f64.format.order (flr .zero x) 14114281232179134464 == some .eq) = false := h1
  have f2 : (FloatKind.f64.format.order (flr .zero x) 4890909195324358656 == some .lt) = true := h2
  have f3 : (FloatKind.f64.format.order (flr .zero x) 4890909195324358656 == some .gt || FloatKind.f64.format.order (flr .zero x) 4890909195324358656 == some .eq) = false := h3
  clear h1 h2 h3
  generalize flr .zero x = t at *
  go_enter Try.func18, Try.ntmps18
  go_wp2_with (first | (go_at_call 27; refine (form_176 _).mono ?_; rintro e w' ⟨rfl, rfl⟩) | (go_at_call 22; refine (Ht.out _).mono ?_; rintro e w' ⟨rfl, rfl⟩) | (go_at_call 19; refine (isNaN_any _ _).mono ?_; rintro e w' ⟨rfl, rfl⟩) | (go_at_call 29; refine (edge_s64_false _).mono ?_; rintro e w' ⟨rfl, rfl⟩))
  go_ret2
  exact ⟨rfl, (by repeat (first | exact Grown.refl _ | apply grown_drewN | apply Grown.drew | apply Grown.alloc | refine Grown.setCell ?_ (by first | exact Nat.le_refl _ | (simp; done)) _))⟩
theorem cut_176_hi (x : Nat) (w : World) (h : nanB x = false) (h1 : geB (flr .zero x) 14114281232179134464 = true) (h2 : ltB (flr .zero x) 4890909195324358656 = false) (h3 : geB (flr .zero x) 4890909195324358656 = true) : Calls Try.prog 18 #[.int .i64 176, .float .f64 x] w (CutEnd 0 3 w) := by
  have Ht := Lib.hid (fun w => trunc_num w h)
  have f1 : (FloatKind.f64.format.order (flr .zero x) 14114281232179134464 == some .gt || FloatKind.f64.format.order (flr .zero x) 14114281232179134464 == some .eq) = true := h1
  have f2 : (FloatKind.f64.format.order (flr .zero x) 4890909195324358656 == some .lt) = false := h2
  have f3 : (FloatKind.f64.format.order (flr .zero x) 4890909195324358656 == some .gt || FloatKind.f64.format.order (flr .zero x) 4890909195324358656 == some .eq) = true := h3
  clear h1 h2 h3
  generalize flr .zero x = t at *
  go_enter Try.func18, Try.ntmps18
  go_wp2_with (first | (go_at_call 27; refine (form_176 _).mono ?_; rintro e w' ⟨rfl, rfl⟩) | (go_at_call 22; refine (Ht.out _).mono ?_; rintro e w' ⟨rfl, rfl⟩) | (go_at_call 19; refine (isNaN_any _ _).mono ?_; rintro e w' ⟨rfl, rfl⟩) | (go_at_call 29; refine (edge_s64_true _).mono ?_; rintro e w' ⟨rfl, rfl⟩))
  go_ret2
  exact ⟨rfl, (by repeat (first | exact Grown.refl _ | apply grown_drewN | apply Grown.drew | apply Grown.alloc | refine Grown.setCell ?_ (by first | exact Nat.le_refl _ | (simp; done)) _))⟩
theorem cut_64518_nan (x : Nat) (w : World) (h : nanB x = true) : Calls Try.prog 18 #[.int .i64 64518, .float .f64 x] w (CutEnd 0 0 w) := by
  have H := Lib.hid h
  go_enter Try.func18, Try.ntmps18
  go_wp2_with (first | (go_at_call 27; refine (form_64518 _).mono ?_; rintro e w' ⟨rfl, rfl⟩) | (go_at_call 22; refine (trunc_nan _ H.out).mono ?_; rintro e w' ⟨c, n, hc, rfl, rfl⟩; have Hc := Lib.hid hc; clear hc) | (go_at_call 19; refine (isNaN_any _ _).mono ?_; rintro e w' ⟨rfl, rfl⟩))
  go_ret2
  exact ⟨rfl, (by repeat (first | exact Grown.refl _ | apply grown_drewN | apply Grown.drew | apply Grown.alloc | refine Grown.setCell ?_ (by first | exact Nat.le_refl _ | (simp; done)) _))⟩
theorem cut_64518_in (x : Nat) (n : Int) (w : World) (h : nanB x = false) (h1 : geB (flr .zero x) 14114281232179134464 = true) (h2 : ltB (flr .zero x) 4890909195324358656 = true) (hi : floatToIntVal .f64 (flr .zero x) .i64 = some n) : Calls Try.prog 18 #[.int .i64 64518, .float .f64 x] w (CutEnd (IntKind.u64.wrap (IntKind.u64.wrap n)) 0 w) := by
  have Ht := Lib.hid (fun w => trunc_num w h)
  have Ho := fun w => Lib.hid (of_s64 (flr .zero x) n w hi)
  have f1 : (FloatKind.f64.format.order (flr .zero x) 14114281232179134464 == some .gt || FloatKind.f64.format.order (flr .zero x) 14114281232179134464 == some .eq) = true := h1
  have f2 : (FloatKind.f64.format.order (flr .zero x) 4890909195324358656 == some .lt) = true := h2
  clear h1 h2 hi
  generalize flr .zero x = t at *
  go_enter Try.func18, Try.ntmps18
  go_wp2_with (first | (go_at_call 27; refine (form_64518 _).mono ?_; rintro e w' ⟨rfl, rfl⟩) | (go_at_call 22; refine (Ht.out _).mono ?_; rintro e w' ⟨rfl, rfl⟩) | (go_at_call 19; refine (isNaN_any _ _).mono ?_; rintro e w' ⟨rfl, rfl⟩) | (go_at_call 28; refine (Ho _).out.mono ?_; rintro e w' ⟨rfl, m, rfl⟩))
  go_ret2
  exact ⟨rfl, (by repeat (first | exact Grown.refl _ | apply grown_drewN | apply Grown.drew | apply Grown.alloc | refine Grown.setCell ?_ (by first | exact Nat.le_refl _ | (simp; done)) _))⟩
theorem cut_64518_lo (x : Nat) (w : World) (h : nanB x = false) (h1 : geB (flr .zero x) 14114281232179134464 = false) (h2 : ltB (flr .zero x) 4890909195324358656 = true) (h3 : geB (flr .zero x) 4890909195324358656 = false) : Calls Try.prog 18 #[.int .i64 64518, .float .f64 x] w (CutEnd 9223372036854775808 0 w) := by
  have Ht := Lib.hid (fun w => trunc_num w h)
  have f1 : (FloatKind.f64.format.order (flr .zero x) 14114281232179134464 == some .gt || FloatKind.f64.format.order (flr .zero x) 14114281232179134464 == some .eq) = false := h1
  have f2 : (FloatKind.f64.format.order (flr .zero x) 4890909195324358656 == some .lt) = true := h2
  have f3 : (FloatKind.f64.format.order (flr .zero x) 4890909195324358656 == some .gt || FloatKind.f64.format.order (flr .zero x) 4890909195324358656 == some .eq) = false := h3
  clear h1 h2 h3
  generalize flr .zero x = t at *
  go_enter Try.func18, Try.ntmps18
  go_wp2_with (first | (go_at_call 27; refine (form_64518 _).mono ?_; rintro e w' ⟨rfl, rfl⟩) | (go_at_call 22; refine (Ht.out _).mono ?_; rintro e w' ⟨rfl, rfl⟩) | (go_at_call 19; refine (isNaN_any _ _).mono ?_; rintro e w' ⟨rfl, rfl⟩) | (go_at_call 29; refine (edge_s64_false _).mono ?_; rintro e w' ⟨rfl, rfl⟩))
  go_ret2
  exact ⟨rfl, (by repeat (first | exact Grown.refl _ | apply grown_drewN | apply Grown.drew | apply Grown.alloc | refine Grown.setCell ?_ (by first | exact Nat.le_refl _ | (simp; done)) _))⟩
theorem cut_64518_hi (x : Nat) (w : World) (h : nanB x = false) (h1 : geB (flr .zero x) 14114281232179134464 = true) (h2 : ltB (flr .zero x) 4890909195324358656 = false) (h3 : geB (flr .zero x) 4890909195324358656 = true) : Calls Try.prog 18 #[.int .i64 64518, .float .f64 x] w (CutEnd 9223372036854775807 0 w) := by
  have Ht := Lib.hid (fun w => trunc_num w h)
  have f1 : (FloatKind.f64.format.order (flr .zero x) 14114281232179134464 == some .gt || FloatKind.f64.format.order (flr .zero x) 14114281232179134464 == some .eq) = true := h1
  have f2 : (FloatKind.f64.format.order (flr .zero x) 4890909195324358656 == some .lt) = false := h2
  have f3 : (FloatKind.f64.format.order (flr .zero x) 4890909195324358656 == some .gt || FloatKind.f64.format.order (flr .zero x) 4890909195324358656 == some .eq) = true := h3
  clear h1 h2 h3
  generalize flr .zero x = t at *
  go_enter Try.func18, Try.ntmps18
  go_wp2_with (first | (go_at_call 27; refine (form_64518 _).mono ?_; rintro e w' ⟨rfl, rfl⟩) | (go_at_call 22; refine (Ht.out _).mono ?_; rintro e w' ⟨rfl, rfl⟩) | (go_at_call 19; refine (isNaN_any _ _).mono ?_; rintro e w' ⟨rfl, rfl⟩) | (go_at_call 29; refine (edge_s64_true _).mono ?_; rintro e w' ⟨rfl, rfl⟩))
  go_ret2
  exact ⟨rfl, (by repeat (first | exact Grown.refl _ | apply grown_drewN | apply Grown.drew | apply Grown.alloc | refine Grown.setCell ?_ (by first | exact Nat.le_refl _ | (simp; done)) _))⟩
theorem cut_177_nan (x : Nat) (w : World) (h : nanB x = true) : Calls Try.prog 18 #[.int .i64 177, .float .f64 x] w (CutEnd 0 4 w) := by
  have H := Lib.hid h
  go_enter Try.func18, Try.ntmps18
  go_wp2_with (first | (go_at_call 27; refine (form_177 _).mono ?_; rintro e w' ⟨rfl, rfl⟩) | (go_at_call 22; refine (trunc_nan _ H.out).mono ?_; rintro e w' ⟨c, n, hc, rfl, rfl⟩; have Hc := Lib.hid hc; clear hc) | (go_at_call 19; refine (isNaN_any _ _).mono ?_; rintro e w' ⟨rfl, rfl⟩))
  go_ret2
  exact ⟨rfl, (by repeat (first | exact Grown.refl _ | apply grown_drewN | apply Grown.drew | apply Grown.alloc | refine Grown.setCell ?_ (by first | exact Nat.le_refl _ | (simp; done)) _))⟩
theorem cut_177_in (x : Nat) (n : Int) (w : World) (h : nanB x = false) (h1 : geB (flr .zero x) 0 = true) (h2 : ltB (flr .zero x) 4895412794951729152 = true) (hi : floatToIntVal .f64 (flr .zero x) .i64 = some n) (hg : geB (flr .zero x) 4890909195324358656 = false) : Calls Try.prog 18 #[.int .i64 177, .float .f64 x] w (CutEnd (IntKind.u64.wrap (IntKind.u64.wrap n)) 0 w) := by
  have Ht := Lib.hid (fun w => trunc_num w h)
  have Ho := fun w => Lib.hid (of_u64 (flr .zero x) n w hi hg)
  have f1 : (FloatKind.f64.format.order (flr .zero x) 0 == some .gt || FloatKind.f64.format.order (flr .zero x) 0 == some .eq) = true := h1
  have f2 : (FloatKind.f64.format.order (flr .zero x) 4895412794951729152 == some .lt) = true := h2
  clear h1 h2 hi hg
  generalize flr .zero x = t at *
  go_enter Try.func18, Try.ntmps18
  go_wp2_with (first | (go_at_call 27; refine (form_177 _).mono ?_; rintro e w' ⟨rfl, rfl⟩) | (go_at_call 22; refine (Ht.out _).mono ?_; rintro e w' ⟨rfl, rfl⟩) | (go_at_call 19; refine (isNaN_any _ _).mono ?_; rintro e w' ⟨rfl, rfl⟩) | (go_at_call 28; refine (Ho _).out.mono ?_; rintro e w' ⟨rfl, m, rfl⟩))
  go_ret2
  exact ⟨rfl, (by repeat (first | exact Grown.refl _ | apply grown_drewN | apply Grown.drew | apply Grown.alloc | refine Grown.setCell ?_ (by first | exact Nat.le_refl _ | (simp; done)) _))⟩
theorem cut_177_inb (x : Nat) (n : Int) (w : World) (h : nanB x = false) (h1 : geB (flr .zero x) 0 = true) (h2 : ltB (flr .zero x) 4895412794951729152 = true) (r : Nat) (hs : Ieee.double.sub (flr .zero x) 4890909195324358656 = some r) (hi : floatToIntVal .f64 r .i64 = some n) (hg : geB (flr .zero x) 4890909195324358656 = true) : Calls Try.prog 18 #[.int .i64 177, .float .f64 x] w (CutEnd (IntKind.u64.wrap (IntKind.u64.wrap (IntKind.u64.wrap n + 9223372036854775808))) 0 w) := by
  have Ht := Lib.hid (fun w => trunc_num w h)
  have Ho := fun w => Lib.hid (of_u64b (flr .zero x) n w r hs hi hg)
  have f1 : (FloatKind.f64.format.order (flr .zero x) 0 == some .gt || FloatKind.f64.format.order (flr .zero x) 0 == some .eq) = true := h1
  have f2 : (FloatKind.f64.format.order (flr .zero x) 4895412794951729152 == some .lt) = true := h2
  clear h1 h2 hi hs hg
  generalize flr .zero x = t at *
  go_enter Try.func18, Try.ntmps18
  go_wp2_with (first | (go_at_call 27; refine (form_177 _).mono ?_; rintro e w' ⟨rfl, rfl⟩) | (go_at_call 22; refine (Ht.out _).mono ?_; rintro e w' ⟨rfl, rfl⟩) | (go_at_call 19; refine (isNaN_any _ _).mono ?_; rintro e w' ⟨rfl, rfl⟩) | (go_at_call 28; refine (Ho _).out.mono ?_; rintro e w' ⟨rfl, m, rfl⟩))
  go_ret2
  exact ⟨rfl, (by repeat (first | exact Grown.refl _ | apply grown_drewN | apply Grown.drew | apply Grown.alloc | refine Grown.setCell ?_ (by first | exact Nat.le_refl _ | (simp; done)) _))⟩
theorem cut_177_lo (x : Nat) (w : World) (h : nanB x = false) (h1 : geB (flr .zero x) 0 = false) (h2 : ltB (flr .zero x) 4895412794951729152 = true) (h3 : geB (flr .zero x) 4895412794951729152 = false) : Calls Try.prog 18 #[.int .i64 177, .float .f64 x] w (CutEnd 0 3 w) := by
  have Ht := Lib.hid (fun w => trunc_num w h)
  have f1 : (FloatKind.f64.format.order (flr .zero x) 0 == some .gt || FloatKind.f64.format.order (flr .zero x) 0 == some .eq) = false := h1
  have f2 : (FloatKind.f64.format.order (flr .zero x) 4895412794951729152 == some .lt) = true := h2
  have f3 : (FloatKind.f64.format.order (flr .zero x) 4895412794951729152 == some .gt || FloatKind.f64.format.order (flr .zero x) 4895412794951729152 == some .eq) = false := h3
  clear h1 h2 h3
  generalize flr .zero x = t at *
  go_enter Try.func18, Try.ntmps18
  go_wp2_with (first | (go_at_call 27; refine (form_177 _).mono ?_; rintro e w' ⟨rfl, rfl⟩) | (go_at_call 22; refine (Ht.out _).mono ?_; rintro e w' ⟨rfl, rfl⟩) | (go_at_call 19; refine (isNaN_any _ _).mono ?_; rintro e w' ⟨rfl, rfl⟩) | (go_at_call 29; refine (edge_u64_false _).mono ?_; rintro e w' ⟨rfl, rfl⟩))
  go_ret2
  exact ⟨rfl, (by repeat (first | exact Grown.refl _ | apply grown_drewN | apply Grown.drew | apply Grown.alloc | refine Grown.setCell ?_ (by first | exact Nat.le_refl _ | (simp; done)) _))⟩
theorem cut_177_hi (x : Nat) (w : World) (h : nanB x = false) (h1 : geB (flr .zero x) 0 = true) (h2 : ltB (flr .zero x) 4895412794951729152 = false) (h3 : geB (flr .zero x) 4895412794951729152 = true) : Calls Try.prog 18 #[.int .i64 177, .float .f64 x] w (CutEnd 0 3 w) := by
  have Ht := Lib.hid (fun w => trunc_num w h)
  have f1 : (FloatKind.f64.format.order (flr .zero x) 0 == some .gt || FloatKind.f64.format.order (flr .zero x) 0 == some .eq) = true := h1
  have f2 : (FloatKind.f64.format.order (flr .zero x) 4895412794951729152 == some .lt) = false := h2
  have f3 : (FloatKind.f64.format.order (flr .zero x) 4895412794951729152 == some .gt || FloatKind.f64.format.order (flr .zero x) 4895412794951729152 == some .eq) = true := h3
  clear h1 h2 h3
  generalize flr .zero x = t at *
  go_enter Try.func18, Try.ntmps18
  go_wp2_with (first | (go_at_call 27; refine (form_177 _).mono ?_; rintro e w' ⟨rfl, rfl⟩) | (go_at_call 22; refine (Ht.out _).mono ?_; rintro e w' ⟨rfl, rfl⟩) | (go_at_call 19; refine (isNaN_any _ _).mono ?_; rintro e w' ⟨rfl, rfl⟩) | (go_at_call 29; refine (edge_u64_true _).mono ?_; rintro e w' ⟨rfl, rfl⟩))
  go_ret2
  exact ⟨rfl, (by repeat (first | exact Grown.refl _ | apply grown_drewN | apply Grown.drew | apply Grown.alloc | refine Grown.setCell ?_ (by first | exact Nat.le_refl _ | (simp; done)) _))⟩
theorem cut_64519_nan (x : Nat) (w : World) (h : nanB x = true) : Calls Try.prog 18 #[.int .i64 64519, .float .f64 x] w (CutEnd 0 0 w) := by
  have H := Lib.hid h
  go_enter Try.func18, Try.ntmps18
  go_wp2_with (first | (go_at_call 27; refine (form_64519 _).mono ?_; rintro e w' ⟨rfl, rfl⟩) | (go_at_call 22; refine (trunc_nan _ H.out).mono ?_; rintro e w' ⟨c, n, hc, rfl, rfl⟩; have Hc := Lib.hid hc; clear hc) | (go_at_call 19; refine (isNaN_any _ _).mono ?_; rintro e w' ⟨rfl, rfl⟩))
  go_ret2
  exact ⟨rfl, (by repeat (first | exact Grown.refl _ | apply grown_drewN | apply Grown.drew | apply Grown.alloc | refine Grown.setCell ?_ (by first | exact Nat.le_refl _ | (simp; done)) _))⟩
theorem cut_64519_in (x : Nat) (n : Int) (w : World) (h : nanB x = false) (h1 : geB (flr .zero x) 0 = true) (h2 : ltB (flr .zero x) 4895412794951729152 = true) (hi : floatToIntVal .f64 (flr .zero x) .i64 = some n) (hg : geB (flr .zero x) 4890909195324358656 = false) : Calls Try.prog 18 #[.int .i64 64519, .float .f64 x] w (CutEnd (IntKind.u64.wrap (IntKind.u64.wrap n)) 0 w) := by
  have Ht := Lib.hid (fun w => trunc_num w h)
  have Ho := fun w => Lib.hid (of_u64 (flr .zero x) n w hi hg)
  have f1 : (FloatKind.f64.format.order (flr .zero x) 0 == some .gt || FloatKind.f64.format.order (flr .zero x) 0 == some .eq) = true := h1
  have f2 : (FloatKind.f64.format.order (flr .zero x) 4895412794951729152 == some .lt) = true := h2
  clear h1 h2 hi hg
  generalize flr .zero x = t at *
  go_enter Try.func18, Try.ntmps18
  go_wp2_with (first | (go_at_call 27; refine (form_64519 _).mono ?_; rintro e w' ⟨rfl, rfl⟩) | (go_at_call 22; refine (Ht.out _).mono ?_; rintro e w' ⟨rfl, rfl⟩) | (go_at_call 19; refine (isNaN_any _ _).mono ?_; rintro e w' ⟨rfl, rfl⟩) | (go_at_call 28; refine (Ho _).out.mono ?_; rintro e w' ⟨rfl, m, rfl⟩))
  go_ret2
  exact ⟨rfl, (by repeat (first | exact Grown.refl _ | apply grown_drewN | apply Grown.drew | apply Grown.alloc | refine Grown.setCell ?_ (by first | exact Nat.le_refl _ | (simp; done)) _))⟩
theorem cut_64519_inb (x : Nat) (n : Int) (w : World) (h : nanB x = false) (h1 : geB (flr .zero x) 0 = true) (h2 : ltB (flr .zero x) 4895412794951729152 = true) (r : Nat) (hs : Ieee.double.sub (flr .zero x) 4890909195324358656 = some r) (hi : floatToIntVal .f64 r .i64 = some n) (hg : geB (flr .zero x) 4890909195324358656 = true) : Calls Try.prog 18 #[.int .i64 64519, .float .f64 x] w (CutEnd (IntKind.u64.wrap (IntKind.u64.wrap (IntKind.u64.wrap n + 9223372036854775808))) 0 w) := by
  have Ht := Lib.hid (fun w => trunc_num w h)
  have Ho := fun w => Lib.hid (of_u64b (flr .zero x) n w r hs hi hg)
  have f1 : (FloatKind.f64.format.order (flr .zero x) 0 == some .gt || FloatKind.f64.format.order (flr .zero x) 0 == some .eq) = true := h1
  have f2 : (FloatKind.f64.format.order (flr .zero x) 4895412794951729152 == some .lt) = true := h2
  clear h1 h2 hi hs hg
  generalize flr .zero x = t at *
  go_enter Try.func18, Try.ntmps18
  go_wp2_with (first | (go_at_call 27; refine (form_64519 _).mono ?_; rintro e w' ⟨rfl, rfl⟩) | (go_at_call 22; refine (Ht.out _).mono ?_; rintro e w' ⟨rfl, rfl⟩) | (go_at_call 19; refine (isNaN_any _ _).mono ?_; rintro e w' ⟨rfl, rfl⟩) | (go_at_call 28; refine (Ho _).out.mono ?_; rintro e w' ⟨rfl, m, rfl⟩))
  go_ret2
  exact ⟨rfl, (by repeat (first | exact Grown.refl _ | apply grown_drewN | apply Grown.drew | apply Grown.alloc | refine Grown.setCell ?_ (by first | exact Nat.le_refl _ | (simp; done)) _))⟩
theorem cut_64519_lo (x : Nat) (w : World) (h : nanB x = false) (h1 : geB (flr .zero x) 0 = false) (h2 : ltB (flr .zero x) 4895412794951729152 = true) (h3 : geB (flr .zero x) 4895412794951729152 = false) : Calls Try.prog 18 #[.int .i64 64519, .float .f64 x] w (CutEnd 0 0 w) := by
  have Ht := Lib.hid (fun w => trunc_num w h)
  have f1 : (FloatKind.f64.format.order (flr .zero x) 0 == some .gt || FloatKind.f64.format.order (flr .zero x) 0 == some .eq) = false := h1
  have f2 : (FloatKind.f64.format.order (flr .zero x) 4895412794951729152 == some .lt) = true := h2
  have f3 : (FloatKind.f64.format.order (flr .zero x) 4895412794951729152 == some .gt || FloatKind.f64.format.order (flr .zero x) 4895412794951729152 == some .eq) = false := h3
  clear h1 h2 h3
  generalize flr .zero x = t at *
  go_enter Try.func18, Try.ntmps18
  go_wp2_with (first | (go_at_call 27; refine (form_64519 _).mono ?_; rintro e w' ⟨rfl, rfl⟩) | (go_at_call 22; refine (Ht.out _).mono ?_; rintro e w' ⟨rfl, rfl⟩) | (go_at_call 19; refine (isNaN_any _ _).mono ?_; rintro e w' ⟨rfl, rfl⟩) | (go_at_call 29; refine (edge_u64_false _).mono ?_; rintro e w' ⟨rfl, rfl⟩))
  go_ret2
  exact ⟨rfl, (by repeat (first | exact Grown.refl _ | apply grown_drewN | apply Grown.drew | apply Grown.alloc | refine Grown.setCell ?_ (by first | exact Nat.le_refl _ | (simp; done)) _))⟩
theorem cut_64519_hi (x : Nat) (w : World) (h : nanB x = false) (h1 : geB (flr .zero x) 0 = true) (h2 : ltB (flr .zero x) 4895412794951729152 = false) (h3 : geB (flr .zero x) 4895412794951729152 = true) : Calls Try.prog 18 #[.int .i64 64519, .float .f64 x] w (CutEnd 18446744073709551615 0 w) := by
  have Ht := Lib.hid (fun w => trunc_num w h)
  have f1 : (FloatKind.f64.format.order (flr .zero x) 0 == some .gt || FloatKind.f64.format.order (flr .zero x) 0 == some .eq) = true := h1
  have f2 : (FloatKind.f64.format.order (flr .zero x) 4895412794951729152 == some .lt) = false := h2
  have f3 : (FloatKind.f64.format.order (flr .zero x) 4895412794951729152 == some .gt || FloatKind.f64.format.order (flr .zero x) 4895412794951729152 == some .eq) = true := h3
  clear h1 h2 h3
  generalize flr .zero x = t at *
  go_enter Try.func18, Try.ntmps18
  go_wp2_with (first | (go_at_call 27; refine (form_64519 _).mono ?_; rintro e w' ⟨rfl, rfl⟩) | (go_at_call 22; refine (Ht.out _).mono ?_; rintro e w' ⟨rfl, rfl⟩) | (go_at_call 19; refine (isNaN_any _ _).mono ?_; rintro e w' ⟨rfl, rfl⟩) | (go_at_call 29; refine (edge_u64_true _).mono ?_; rintro e w' ⟨rfl, rfl⟩))
  go_ret2
  exact ⟨rfl, (by repeat (first | exact Grown.refl _ | apply grown_drewN | apply Grown.drew | apply Grown.alloc | refine Grown.setCell ?_ (by first | exact Nat.le_refl _ | (simp; done)) _))⟩

end Go.Proofs.Ytdfjkollehhljaa
