/- Lemmas for the row of CheckDead, part 6: what its functions do. -/
import Derived.BigRegion
import Derived.Deep.RegionHeld3
import Derived.Deep.RegionLaw
import Derived.Deep.Light
import Derived.Shelf.Abstract
import Derived.Maps.Own
import Derived.Maps.Views
import Derived.Maps.OwnOps
import Derived.StringKeys
import Derived.Shelf.SlSortCmp.WholeK
import Derived.Shelf.SlSortCmp.NoneTotal
import Derived.Shelf.SlGeneric
import Derived.Ground.SlsfProg
import Derived.Test.YthehihjcpiadgaaGreatProg
import Derived.Test.YthehihjcpiadgaaGreatCheckDeadG5
section
namespace Go.Proofs.YthehihjcpiadgaaGreat
open Go.RowKit Go.Proofs.YthehihjcpiadgaaGreatW.PrintWords
set_option linter.unusedSimpArgs false
set_option linter.unusedVariables false
def ShapeEnd (a b n l ok : Bool) (w : World) (e : Ending) (w' : World) : Prop := e = .returned (.tuple #[.agg #[.bool a, .bool b, .bool n, .bool l], .bool ok]) ∧ Below w.heap.size w w'
set_option maxRecDepth 100000 in
set_option maxHeartbeats 2000000 in
theorem shape_12 (a b n : Int) (xs : List Int) (A : Option Addr) (c : Nat) (w : World) (hx : IntsC w A xs) : Calls Tryz.prog 177 #[.agg #[.int .i64 12, .int .i64 a, .int .i64 b, .int .u64 n, .slice A xs.length c]] w (ShapeEnd true false false false (Sp.within a 0 (65 - 1)) w) := by
  have H1 := Lib.hid (fun w => (show Calls Tryz.prog 88 #[.int .i64 12] w (fun e w' => e = .returned (.tuple #[.int .i64 0, .int .i64 0, .bool false, .bool false]) ∧ w = w') from ops_Access 12 w))
  have H2 := Lib.hid (fun w => (show Calls Tryz.prog 152 #[.int .i64 12] w (fun e w' => e = .returned (.tuple #[.int .i64 0, .bool false]) ∧ w = w') from ops_Const 12 w))
  have H3 := Lib.hid (fun w => (show Calls Tryz.prog 87 #[.int .i64 12] w (fun e w' => e = .returned (.bool false) ∧ w = w') from ops_Opens 12 w))
  clear hx
  go_enter Tryz.func177, Tryz.ntmps177
  go_wp2_with (first | (go_at_call 88; with_reducible refine (H1.out _).mono ?_; rintro e w' ⟨rfl, rfl⟩) | (go_at_call 152; with_reducible refine (H2.out _).mono ?_; rintro e w' ⟨rfl, rfl⟩) | (go_at_call 87; with_reducible refine (H3.out _).mono ?_; rintro e w' ⟨rfl, rfl⟩) | (go_at_call 137; with_reducible refine (module_within _ _ _).mono ?_; rintro e w' ⟨rfl, rfl⟩))
  refine bodyPost_ret (v := _) (by simp [results, Tryz.results177, go_sem] <;> rfl) rfl ?_
  refine ⟨rfl, by repeat (first | exact Below.refl _ _ | refine below_alloc ?_ _ | refine below_drew1 ?_ | refine pw_below_drewN ?_ _ | refine below_set ?_ (by first | omega | (simp; done)))⟩
set_option maxRecDepth 100000 in
set_option maxHeartbeats 2000000 in
theorem shape_13 (a b n : Int) (xs : List Int) (A : Option Addr) (c : Nat) (w : World) (hx : IntsC w A xs) : Calls Tryz.prog 177 #[.agg #[.int .i64 13, .int .i64 a, .int .i64 b, .int .u64 n, .slice A xs.length c]] w (ShapeEnd true false false false (Sp.within a 0 (65 - 1)) w) := by
  have H1 := Lib.hid (fun w => (show Calls Tryz.prog 88 #[.int .i64 13] w (fun e w' => e = .returned (.tuple #[.int .i64 0, .int .i64 0, .bool false, .bool false]) ∧ w = w') from ops_Access 13 w))
  have H2 := Lib.hid (fun w => (show Calls Tryz.prog 152 #[.int .i64 13] w (fun e w' => e = .returned (.tuple #[.int .i64 0, .bool false]) ∧ w = w') from ops_Const 13 w))
  have H3 := Lib.hid (fun w => (show Calls Tryz.prog 87 #[.int .i64 13] w (fun e w' => e = .returned (.bool false) ∧ w = w') from ops_Opens 13 w))
  clear hx
  go_enter Tryz.func177, Tryz.ntmps177
  go_wp2_with (first | (go_at_call 88; with_reducible refine (H1.out _).mono ?_; rintro e w' ⟨rfl, rfl⟩) | (go_at_call 152; with_reducible refine (H2.out _).mono ?_; rintro e w' ⟨rfl, rfl⟩) | (go_at_call 87; with_reducible refine (H3.out _).mono ?_; rintro e w' ⟨rfl, rfl⟩) | (go_at_call 137; with_reducible refine (module_within _ _ _).mono ?_; rintro e w' ⟨rfl, rfl⟩))
  refine bodyPost_ret (v := _) (by simp [results, Tryz.results177, go_sem] <;> rfl) rfl ?_
  refine ⟨rfl, by repeat (first | exact Below.refl _ _ | refine below_alloc ?_ _ | refine below_drew1 ?_ | refine pw_below_drewN ?_ _ | refine below_set ?_ (by first | omega | (simp; done)))⟩
set_option maxRecDepth 100000 in
set_option maxHeartbeats 2000000 in
theorem shape_16 (a b n : Int) (xs : List Int) (A : Option Addr) (c : Nat) (w : World) (hx : IntsC w A xs) : Calls Tryz.prog 177 #[.agg #[.int .i64 16, .int .i64 a, .int .i64 b, .int .u64 n, .slice A xs.length c]] w (ShapeEnd true false false false (Sp.within a 0 (256 - 1)) w) := by
  have H1 := Lib.hid (fun w => (show Calls Tryz.prog 88 #[.int .i64 16] w (fun e w' => e = .returned (.tuple #[.int .i64 0, .int .i64 0, .bool false, .bool false]) ∧ w = w') from ops_Access 16 w))
  have H2 := Lib.hid (fun w => (show Calls Tryz.prog 152 #[.int .i64 16] w (fun e w' => e = .returned (.tuple #[.int .i64 0, .bool false]) ∧ w = w') from ops_Const 16 w))
  have H3 := Lib.hid (fun w => (show Calls Tryz.prog 87 #[.int .i64 16] w (fun e w' => e = .returned (.bool false) ∧ w = w') from ops_Opens 16 w))
  clear hx
  go_enter Tryz.func177, Tryz.ntmps177
  go_wp2_with (first | (go_at_call 88; with_reducible refine (H1.out _).mono ?_; rintro e w' ⟨rfl, rfl⟩) | (go_at_call 152; with_reducible refine (H2.out _).mono ?_; rintro e w' ⟨rfl, rfl⟩) | (go_at_call 87; with_reducible refine (H3.out _).mono ?_; rintro e w' ⟨rfl, rfl⟩) | (go_at_call 137; with_reducible refine (module_within _ _ _).mono ?_; rintro e w' ⟨rfl, rfl⟩))
  refine bodyPost_ret (v := _) (by simp [results, Tryz.results177, go_sem] <;> rfl) rfl ?_
  refine ⟨rfl, by repeat (first | exact Below.refl _ _ | refine below_alloc ?_ _ | refine below_drew1 ?_ | refine pw_below_drewN ?_ _ | refine below_set ?_ (by first | omega | (simp; done)))⟩
set_option maxRecDepth 100000 in
set_option maxHeartbeats 2000000 in
theorem shape_18 (a b n : Int) (xs : List Int) (A : Option Addr) (c : Nat) (w : World) (hx : IntsC w A xs) : Calls Tryz.prog 177 #[.agg #[.int .i64 18, .int .i64 a, .int .i64 b, .int .u64 n, .slice A xs.length c]] w (ShapeEnd true false false false (Sp.within a 0 (256 - 1)) w) := by
  have H1 := Lib.hid (fun w => (show Calls Tryz.prog 88 #[.int .i64 18] w (fun e w' => e = .returned (.tuple #[.int .i64 0, .int .i64 0, .bool false, .bool false]) ∧ w = w') from ops_Access 18 w))
  have H2 := Lib.hid (fun w => (show Calls Tryz.prog 152 #[.int .i64 18] w (fun e w' => e = .returned (.tuple #[.int .i64 0, .bool false]) ∧ w = w') from ops_Const 18 w))
  have H3 := Lib.hid (fun w => (show Calls Tryz.prog 87 #[.int .i64 18] w (fun e w' => e = .returned (.bool false) ∧ w = w') from ops_Opens 18 w))
  clear hx
  go_enter Tryz.func177, Tryz.ntmps177
  go_wp2_with (first | (go_at_call 88; with_reducible refine (H1.out _).mono ?_; rintro e w' ⟨rfl, rfl⟩) | (go_at_call 152; with_reducible refine (H2.out _).mono ?_; rintro e w' ⟨rfl, rfl⟩) | (go_at_call 87; with_reducible refine (H3.out _).mono ?_; rintro e w' ⟨rfl, rfl⟩) | (go_at_call 137; with_reducible refine (module_within _ _ _).mono ?_; rintro e w' ⟨rfl, rfl⟩))
  refine bodyPost_ret (v := _) (by simp [results, Tryz.results177, go_sem] <;> rfl) rfl ?_
  refine ⟨rfl, by repeat (first | exact Below.refl _ _ | refine below_alloc ?_ _ | refine below_drew1 ?_ | refine pw_below_drewN ?_ _ | refine below_set ?_ (by first | omega | (simp; done)))⟩
set_option maxRecDepth 100000 in
set_option maxHeartbeats 2000000 in
theorem shape_32 (a b n : Int) (xs : List Int) (A : Option Addr) (c : Nat) (w : World) (hx : IntsC w A xs) : Calls Tryz.prog 177 #[.agg #[.int .i64 32, .int .i64 a, .int .i64 b, .int .u64 n, .slice A xs.length c]] w (ShapeEnd true false false false (Sp.within a 0 (256 - 1)) w) := by
  have H1 := Lib.hid (fun w => (show Calls Tryz.prog 88 #[.int .i64 32] w (fun e w' => e = .returned (.tuple #[.int .i64 0, .int .i64 0, .bool false, .bool false]) ∧ w = w') from ops_Access 32 w))
  have H2 := Lib.hid (fun w => (show Calls Tryz.prog 152 #[.int .i64 32] w (fun e w' => e = .returned (.tuple #[.int .i64 0, .bool false]) ∧ w = w') from ops_Const 32 w))
  have H3 := Lib.hid (fun w => (show Calls Tryz.prog 87 #[.int .i64 32] w (fun e w' => e = .returned (.bool false) ∧ w = w') from ops_Opens 32 w))
  clear hx
  go_enter Tryz.func177, Tryz.ntmps177
  go_wp2_with (first | (go_at_call 88; with_reducible refine (H1.out _).mono ?_; rintro e w' ⟨rfl, rfl⟩) | (go_at_call 152; with_reducible refine (H2.out _).mono ?_; rintro e w' ⟨rfl, rfl⟩) | (go_at_call 87; with_reducible refine (H3.out _).mono ?_; rintro e w' ⟨rfl, rfl⟩) | (go_at_call 137; with_reducible refine (module_within _ _ _).mono ?_; rintro e w' ⟨rfl, rfl⟩))
  refine bodyPost_ret (v := _) (by simp [results, Tryz.results177, go_sem] <;> rfl) rfl ?_
  refine ⟨rfl, by repeat (first | exact Below.refl _ _ | refine below_alloc ?_ _ | refine below_drew1 ?_ | refine pw_below_drewN ?_ _ | refine below_set ?_ (by first | omega | (simp; done)))⟩
set_option maxRecDepth 100000 in
set_option maxHeartbeats 2000000 in
theorem shape_33 (a b n : Int) (xs : List Int) (A : Option Addr) (c : Nat) (w : World) (hx : IntsC w A xs) : Calls Tryz.prog 177 #[.agg #[.int .i64 33, .int .i64 a, .int .i64 b, .int .u64 n, .slice A xs.length c]] w (ShapeEnd true false false false (Sp.within a 0 (256 - 1)) w) := by
  have H1 := Lib.hid (fun w => (show Calls Tryz.prog 88 #[.int .i64 33] w (fun e w' => e = .returned (.tuple #[.int .i64 0, .int .i64 0, .bool false, .bool false]) ∧ w = w') from ops_Access 33 w))
  have H2 := Lib.hid (fun w => (show Calls Tryz.prog 152 #[.int .i64 33] w (fun e w' => e = .returned (.tuple #[.int .i64 0, .bool false]) ∧ w = w') from ops_Const 33 w))
  have H3 := Lib.hid (fun w => (show Calls Tryz.prog 87 #[.int .i64 33] w (fun e w' => e = .returned (.bool false) ∧ w = w') from ops_Opens 33 w))
  clear hx
  go_enter Tryz.func177, Tryz.ntmps177
  go_wp2_with (first | (go_at_call 88; with_reducible refine (H1.out _).mono ?_; rintro e w' ⟨rfl, rfl⟩) | (go_at_call 152; with_reducible refine (H2.out _).mono ?_; rintro e w' ⟨rfl, rfl⟩) | (go_at_call 87; with_reducible refine (H3.out _).mono ?_; rintro e w' ⟨rfl, rfl⟩) | (go_at_call 137; with_reducible refine (module_within _ _ _).mono ?_; rintro e w' ⟨rfl, rfl⟩))
  refine bodyPost_ret (v := _) (by simp [results, Tryz.results177, go_sem] <;> rfl) rfl ?_
  refine ⟨rfl, by repeat (first | exact Below.refl _ _ | refine below_alloc ?_ _ | refine below_drew1 ?_ | refine pw_below_drewN ?_ _ | refine below_set ?_ (by first | omega | (simp; done)))⟩
set_option maxRecDepth 100000 in
set_option maxHeartbeats 2000000 in
theorem shape_34 (a b n : Int) (xs : List Int) (A : Option Addr) (c : Nat) (w : World) (hx : IntsC w A xs) : Calls Tryz.prog 177 #[.agg #[.int .i64 34, .int .i64 a, .int .i64 b, .int .u64 n, .slice A xs.length c]] w (ShapeEnd true false false false (Sp.within a 0 (256 - 1)) w) := by
  have H1 := Lib.hid (fun w => (show Calls Tryz.prog 88 #[.int .i64 34] w (fun e w' => e = .returned (.tuple #[.int .i64 0, .int .i64 0, .bool false, .bool false]) ∧ w = w') from ops_Access 34 w))
  have H2 := Lib.hid (fun w => (show Calls Tryz.prog 152 #[.int .i64 34] w (fun e w' => e = .returned (.tuple #[.int .i64 0, .bool false]) ∧ w = w') from ops_Const 34 w))
  have H3 := Lib.hid (fun w => (show Calls Tryz.prog 87 #[.int .i64 34] w (fun e w' => e = .returned (.bool false) ∧ w = w') from ops_Opens 34 w))
  clear hx
  go_enter Tryz.func177, Tryz.ntmps177
  go_wp2_with (first | (go_at_call 88; with_reducible refine (H1.out _).mono ?_; rintro e w' ⟨rfl, rfl⟩) | (go_at_call 152; with_reducible refine (H2.out _).mono ?_; rintro e w' ⟨rfl, rfl⟩) | (go_at_call 87; with_reducible refine (H3.out _).mono ?_; rintro e w' ⟨rfl, rfl⟩) | (go_at_call 137; with_reducible refine (module_within _ _ _).mono ?_; rintro e w' ⟨rfl, rfl⟩))
  refine bodyPost_ret (v := _) (by simp [results, Tryz.results177, go_sem] <;> rfl) rfl ?_
  refine ⟨rfl, by repeat (first | exact Below.refl _ _ | refine below_alloc ?_ _ | refine below_drew1 ?_ | refine pw_below_drewN ?_ _ | refine below_set ?_ (by first | omega | (simp; done)))⟩
set_option maxRecDepth 100000 in
set_option maxHeartbeats 2000000 in
theorem shape_35 (a b n : Int) (xs : List Int) (A : Option Addr) (c : Nat) (w : World) (hx : IntsC w A xs) : Calls Tryz.prog 177 #[.agg #[.int .i64 35, .int .i64 a, .int .i64 b, .int .u64 n, .slice A xs.length c]] w (ShapeEnd true false false false (Sp.within a 0 (256 - 1)) w) := by
  have H1 := Lib.hid (fun w => (show Calls Tryz.prog 88 #[.int .i64 35] w (fun e w' => e = .returned (.tuple #[.int .i64 0, .int .i64 0, .bool false, .bool false]) ∧ w = w') from ops_Access 35 w))
  have H2 := Lib.hid (fun w => (show Calls Tryz.prog 152 #[.int .i64 35] w (fun e w' => e = .returned (.tuple #[.int .i64 0, .bool false]) ∧ w = w') from ops_Const 35 w))
  have H3 := Lib.hid (fun w => (show Calls Tryz.prog 87 #[.int .i64 35] w (fun e w' => e = .returned (.bool false) ∧ w = w') from ops_Opens 35 w))
  clear hx
  go_enter Tryz.func177, Tryz.ntmps177
  go_wp2_with (first | (go_at_call 88; with_reducible refine (H1.out _).mono ?_; rintro e w' ⟨rfl, rfl⟩) | (go_at_call 152; with_reducible refine (H2.out _).mono ?_; rintro e w' ⟨rfl, rfl⟩) | (go_at_call 87; with_reducible refine (H3.out _).mono ?_; rintro e w' ⟨rfl, rfl⟩) | (go_at_call 137; with_reducible refine (module_within _ _ _).mono ?_; rintro e w' ⟨rfl, rfl⟩))
  refine bodyPost_ret (v := _) (by simp [results, Tryz.results177, go_sem] <;> rfl) rfl ?_
  refine ⟨rfl, by repeat (first | exact Below.refl _ _ | refine below_alloc ?_ _ | refine below_drew1 ?_ | refine pw_below_drewN ?_ _ | refine below_set ?_ (by first | omega | (simp; done)))⟩
set_option maxRecDepth 100000 in
set_option maxHeartbeats 2000000 in
theorem shape_36 (a b n : Int) (xs : List Int) (A : Option Addr) (c : Nat) (w : World) (hx : IntsC w A xs) : Calls Tryz.prog 177 #[.agg #[.int .i64 36, .int .i64 a, .int .i64 b, .int .u64 n, .slice A xs.length c]] w (ShapeEnd true false false false (Sp.within a 0 (256 - 1)) w) := by
  have H1 := Lib.hid (fun w => (show Calls Tryz.prog 88 #[.int .i64 36] w (fun e w' => e = .returned (.tuple #[.int .i64 0, .int .i64 0, .bool false, .bool false]) ∧ w = w') from ops_Access 36 w))
  have H2 := Lib.hid (fun w => (show Calls Tryz.prog 152 #[.int .i64 36] w (fun e w' => e = .returned (.tuple #[.int .i64 0, .bool false]) ∧ w = w') from ops_Const 36 w))
  have H3 := Lib.hid (fun w => (show Calls Tryz.prog 87 #[.int .i64 36] w (fun e w' => e = .returned (.bool false) ∧ w = w') from ops_Opens 36 w))
  clear hx
  go_enter Tryz.func177, Tryz.ntmps177
  go_wp2_with (first | (go_at_call 88; with_reducible refine (H1.out _).mono ?_; rintro e w' ⟨rfl, rfl⟩) | (go_at_call 152; with_reducible refine (H2.out _).mono ?_; rintro e w' ⟨rfl, rfl⟩) | (go_at_call 87; with_reducible refine (H3.out _).mono ?_; rintro e w' ⟨rfl, rfl⟩) | (go_at_call 137; with_reducible refine (module_within _ _ _).mono ?_; rintro e w' ⟨rfl, rfl⟩))
  refine bodyPost_ret (v := _) (by simp [results, Tryz.results177, go_sem] <;> rfl) rfl ?_
  refine ⟨rfl, by repeat (first | exact Below.refl _ _ | refine below_alloc ?_ _ | refine below_drew1 ?_ | refine pw_below_drewN ?_ _ | refine below_set ?_ (by first | omega | (simp; done)))⟩
set_option maxRecDepth 100000 in
set_option maxHeartbeats 2000000 in
theorem shape_63 (a b n : Int) (xs : List Int) (A : Option Addr) (c : Nat) (w : World) (hx : IntsC w A xs) : Calls Tryz.prog 177 #[.agg #[.int .i64 63, .int .i64 a, .int .i64 b, .int .u64 n, .slice A xs.length c]] w (ShapeEnd true false false false (Sp.within a 0 (4 - 1)) w) := by
  have H1 := Lib.hid (fun w => (show Calls Tryz.prog 88 #[.int .i64 63] w (fun e w' => e = .returned (.tuple #[.int .i64 0, .int .i64 0, .bool false, .bool false]) ∧ w = w') from ops_Access 63 w))
  have H2 := Lib.hid (fun w => (show Calls Tryz.prog 152 #[.int .i64 63] w (fun e w' => e = .returned (.tuple #[.int .i64 0, .bool false]) ∧ w = w') from ops_Const 63 w))
  have H3 := Lib.hid (fun w => (show Calls Tryz.prog 87 #[.int .i64 63] w (fun e w' => e = .returned (.bool false) ∧ w = w') from ops_Opens 63 w))
  clear hx
  go_enter Tryz.func177, Tryz.ntmps177
  go_wp2_with (first | (go_at_call 88; with_reducible refine (H1.out _).mono ?_; rintro e w' ⟨rfl, rfl⟩) | (go_at_call 152; with_reducible refine (H2.out _).mono ?_; rintro e w' ⟨rfl, rfl⟩) | (go_at_call 87; with_reducible refine (H3.out _).mono ?_; rintro e w' ⟨rfl, rfl⟩) | (go_at_call 137; with_reducible refine (module_within _ _ _).mono ?_; rintro e w' ⟨rfl, rfl⟩))
  refine bodyPost_ret (v := _) (by simp [results, Tryz.results177, go_sem] <;> rfl) rfl ?_
  refine ⟨rfl, by repeat (first | exact Below.refl _ _ | refine below_alloc ?_ _ | refine below_drew1 ?_ | refine pw_below_drewN ?_ _ | refine below_set ?_ (by first | omega | (simp; done)))⟩
set_option maxRecDepth 100000 in
set_option maxHeartbeats 2000000 in
theorem shape_64 (a b n : Int) (xs : List Int) (A : Option Addr) (c : Nat) (w : World) (hx : IntsC w A xs) : Calls Tryz.prog 177 #[.agg #[.int .i64 64, .int .i64 a, .int .i64 b, .int .u64 n, .slice A xs.length c]] w (ShapeEnd true false false false (Sp.within a 0 (4 - 1)) w) := by
  have H1 := Lib.hid (fun w => (show Calls Tryz.prog 88 #[.int .i64 64] w (fun e w' => e = .returned (.tuple #[.int .i64 0, .int .i64 0, .bool false, .bool false]) ∧ w = w') from ops_Access 64 w))
  have H2 := Lib.hid (fun w => (show Calls Tryz.prog 152 #[.int .i64 64] w (fun e w' => e = .returned (.tuple #[.int .i64 0, .bool false]) ∧ w = w') from ops_Const 64 w))
  have H3 := Lib.hid (fun w => (show Calls Tryz.prog 87 #[.int .i64 64] w (fun e w' => e = .returned (.bool false) ∧ w = w') from ops_Opens 64 w))
  clear hx
  go_enter Tryz.func177, Tryz.ntmps177
  go_wp2_with (first | (go_at_call 88; with_reducible refine (H1.out _).mono ?_; rintro e w' ⟨rfl, rfl⟩) | (go_at_call 152; with_reducible refine (H2.out _).mono ?_; rintro e w' ⟨rfl, rfl⟩) | (go_at_call 87; with_reducible refine (H3.out _).mono ?_; rintro e w' ⟨rfl, rfl⟩) | (go_at_call 137; with_reducible refine (module_within _ _ _).mono ?_; rintro e w' ⟨rfl, rfl⟩))
  refine bodyPost_ret (v := _) (by simp [results, Tryz.results177, go_sem] <;> rfl) rfl ?_
  refine ⟨rfl, by repeat (first | exact Below.refl _ _ | refine below_alloc ?_ _ | refine below_drew1 ?_ | refine pw_below_drewN ?_ _ | refine below_set ?_ (by first | omega | (simp; done)))⟩
set_option maxRecDepth 100000 in
set_option maxHeartbeats 2000000 in
theorem shape_64523 (a b n : Int) (xs : List Int) (A : Option Addr) (c : Nat) (w : World) (hx : IntsC w A xs) : Calls Tryz.prog 177 #[.agg #[.int .i64 64523, .int .i64 a, .int .i64 b, .int .u64 n, .slice A xs.length c]] w (ShapeEnd true false false false (Sp.within a 0 (4 - 1)) w) := by
  have H1 := Lib.hid (fun w => (show Calls Tryz.prog 88 #[.int .i64 64523] w (fun e w' => e = .returned (.tuple #[.int .i64 0, .int .i64 0, .bool false, .bool false]) ∧ w = w') from ops_Access 64523 w))
  have H2 := Lib.hid (fun w => (show Calls Tryz.prog 152 #[.int .i64 64523] w (fun e w' => e = .returned (.tuple #[.int .i64 0, .bool false]) ∧ w = w') from ops_Const 64523 w))
  have H3 := Lib.hid (fun w => (show Calls Tryz.prog 87 #[.int .i64 64523] w (fun e w' => e = .returned (.bool false) ∧ w = w') from ops_Opens 64523 w))
  clear hx
  go_enter Tryz.func177, Tryz.ntmps177
  go_wp2_with (first | (go_at_call 88; with_reducible refine (H1.out _).mono ?_; rintro e w' ⟨rfl, rfl⟩) | (go_at_call 152; with_reducible refine (H2.out _).mono ?_; rintro e w' ⟨rfl, rfl⟩) | (go_at_call 87; with_reducible refine (H3.out _).mono ?_; rintro e w' ⟨rfl, rfl⟩) | (go_at_call 137; with_reducible refine (module_within _ _ _).mono ?_; rintro e w' ⟨rfl, rfl⟩))
  refine bodyPost_ret (v := _) (by simp [results, Tryz.results177, go_sem] <;> rfl) rfl ?_
  refine ⟨rfl, by repeat (first | exact Below.refl _ _ | refine below_alloc ?_ _ | refine below_drew1 ?_ | refine pw_below_drewN ?_ _ | refine below_set ?_ (by first | omega | (simp; done)))⟩
set_option maxRecDepth 100000 in
set_option maxHeartbeats 2000000 in
theorem shape_64521 (a b n : Int) (xs : List Int) (A : Option Addr) (c : Nat) (w : World) (hx : IntsC w A xs) : Calls Tryz.prog 177 #[.agg #[.int .i64 64521, .int .i64 a, .int .i64 b, .int .u64 n, .slice A xs.length c]] w (ShapeEnd true false false false (Sp.within a 0 (16 - 1)) w) := by
  have H1 := Lib.hid (fun w => (show Calls Tryz.prog 88 #[.int .i64 64521] w (fun e w' => e = .returned (.tuple #[.int .i64 0, .int .i64 0, .bool false, .bool false]) ∧ w = w') from ops_Access 64521 w))
  have H2 := Lib.hid (fun w => (show Calls Tryz.prog 152 #[.int .i64 64521] w (fun e w' => e = .returned (.tuple #[.int .i64 0, .bool false]) ∧ w = w') from ops_Const 64521 w))
  have H3 := Lib.hid (fun w => (show Calls Tryz.prog 87 #[.int .i64 64521] w (fun e w' => e = .returned (.bool false) ∧ w = w') from ops_Opens 64521 w))
  clear hx
  go_enter Tryz.func177, Tryz.ntmps177
  go_wp2_with (first | (go_at_call 88; with_reducible refine (H1.out _).mono ?_; rintro e w' ⟨rfl, rfl⟩) | (go_at_call 152; with_reducible refine (H2.out _).mono ?_; rintro e w' ⟨rfl, rfl⟩) | (go_at_call 87; with_reducible refine (H3.out _).mono ?_; rintro e w' ⟨rfl, rfl⟩) | (go_at_call 137; with_reducible refine (module_within _ _ _).mono ?_; rintro e w' ⟨rfl, rfl⟩))
  refine bodyPost_ret (v := _) (by simp [results, Tryz.results177, go_sem] <;> rfl) rfl ?_
  refine ⟨rfl, by repeat (first | exact Below.refl _ _ | refine below_alloc ?_ _ | refine below_drew1 ?_ | refine pw_below_drewN ?_ _ | refine below_set ?_ (by first | omega | (simp; done)))⟩
set_option maxRecDepth 100000 in
set_option maxHeartbeats 2000000 in
theorem shape_64520 (a b n : Int) (xs : List Int) (A : Option Addr) (c : Nat) (w : World) (hx : IntsC w A xs) : Calls Tryz.prog 177 #[.agg #[.int .i64 64520, .int .i64 a, .int .i64 b, .int .u64 n, .slice A xs.length c]] w (ShapeEnd true true false false (Sp.within a 0 (4 - 1) && Sp.within b 0 (16 - 1)) w) := by
  have H1 := Lib.hid (fun w => (show Calls Tryz.prog 88 #[.int .i64 64520] w (fun e w' => e = .returned (.tuple #[.int .i64 0, .int .i64 0, .bool false, .bool false]) ∧ w = w') from ops_Access 64520 w))
  have H2 := Lib.hid (fun w => (show Calls Tryz.prog 152 #[.int .i64 64520] w (fun e w' => e = .returned (.tuple #[.int .i64 0, .bool false]) ∧ w = w') from ops_Const 64520 w))
  have H3 := Lib.hid (fun w => (show Calls Tryz.prog 87 #[.int .i64 64520] w (fun e w' => e = .returned (.bool false) ∧ w = w') from ops_Opens 64520 w))
  clear hx
  have H4 := Lib.hid (fun w => (show Calls Tryz.prog 137 #[.int .i64 b, .int .i64 16] w (fun e w' => e = .returned (.bool (Sp.within b 0 (16 - 1))) ∧ w = w') from module_within b 16 w))
  cases t1 : Sp.within a 0 (4 - 1) with
  | false =>
    have H5 := Lib.hid (fun w => (show Calls Tryz.prog 137 #[.int .i64 a, .int .i64 4] w (fun e w' => e = .returned (.bool false) ∧ w = w') from t1 ▸ module_within a 4 w))
    clear t1
    go_enter Tryz.func177, Tryz.ntmps177
    go_wp2_with (first | (go_at_call 88; with_reducible refine (H1.out _).mono ?_; rintro e w' ⟨rfl, rfl⟩) | (go_at_call 152; with_reducible refine (H2.out _).mono ?_; rintro e w' ⟨rfl, rfl⟩) | (go_at_call 87; with_reducible refine (H3.out _).mono ?_; rintro e w' ⟨rfl, rfl⟩) | (go_at_call 137; with_reducible refine (H5.out _).mono ?_; rintro e w' ⟨rfl, rfl⟩))
    refine bodyPost_ret (v := _) (by simp [results, Tryz.results177, go_sem] <;> rfl) rfl ?_
    refine ⟨rfl, by repeat (first | exact Below.refl _ _ | refine below_alloc ?_ _ | refine below_drew1 ?_ | refine pw_below_drewN ?_ _ | refine below_set ?_ (by first | omega | (simp; done)))⟩
  | true =>
    have H5 := Lib.hid (fun w => (show Calls Tryz.prog 137 #[.int .i64 a, .int .i64 4] w (fun e w' => e = .returned (.bool true) ∧ w = w') from t1 ▸ module_within a 4 w))
    clear t1
    go_enter Tryz.func177, Tryz.ntmps177
    go_wp2_with (first | (go_at_call 88; with_reducible refine (H1.out _).mono ?_; rintro e w' ⟨rfl, rfl⟩) | (go_at_call 152; with_reducible refine (H2.out _).mono ?_; rintro e w' ⟨rfl, rfl⟩) | (go_at_call 87; with_reducible refine (H3.out _).mono ?_; rintro e w' ⟨rfl, rfl⟩) | (go_at_call 137; with_reducible refine (H5.out _).mono ?_; rintro e w' ⟨rfl, rfl⟩) | (go_at_call 137; with_reducible refine (H4.out _).mono ?_; rintro e w' ⟨rfl, rfl⟩))
    refine bodyPost_ret (v := _) (by simp [results, Tryz.results177, go_sem] <;> rfl) rfl ?_
    refine ⟨rfl, by repeat (first | exact Below.refl _ _ | refine below_alloc ?_ _ | refine below_drew1 ?_ | refine pw_below_drewN ?_ _ | refine below_set ?_ (by first | omega | (simp; done)))⟩
set_option maxRecDepth 100000 in
set_option maxHeartbeats 2000000 in
theorem shape_64522 (a b n : Int) (xs : List Int) (A : Option Addr) (c : Nat) (w : World) (hx : IntsC w A xs) : Calls Tryz.prog 177 #[.agg #[.int .i64 64522, .int .i64 a, .int .i64 b, .int .u64 n, .slice A xs.length c]] w (ShapeEnd true true false false (Sp.within a 0 (4 - 1) && Sp.within b 0 (4 - 1)) w) := by
  have H1 := Lib.hid (fun w => (show Calls Tryz.prog 88 #[.int .i64 64522] w (fun e w' => e = .returned (.tuple #[.int .i64 0, .int .i64 0, .bool false, .bool false]) ∧ w = w') from ops_Access 64522 w))
  have H2 := Lib.hid (fun w => (show Calls Tryz.prog 152 #[.int .i64 64522] w (fun e w' => e = .returned (.tuple #[.int .i64 0, .bool false]) ∧ w = w') from ops_Const 64522 w))
  have H3 := Lib.hid (fun w => (show Calls Tryz.prog 87 #[.int .i64 64522] w (fun e w' => e = .returned (.bool false) ∧ w = w') from ops_Opens 64522 w))
  clear hx
  have H4 := Lib.hid (fun w => (show Calls Tryz.prog 137 #[.int .i64 b, .int .i64 4] w (fun e w' => e = .returned (.bool (Sp.within b 0 (4 - 1))) ∧ w = w') from module_within b 4 w))
  cases t1 : Sp.within a 0 (4 - 1) with
  | false =>
    have H5 := Lib.hid (fun w => (show Calls Tryz.prog 137 #[.int .i64 a, .int .i64 4] w (fun e w' => e = .returned (.bool false) ∧ w = w') from t1 ▸ module_within a 4 w))
    clear t1
    go_enter Tryz.func177, Tryz.ntmps177
    go_wp2_with (first | (go_at_call 88; with_reducible refine (H1.out _).mono ?_; rintro e w' ⟨rfl, rfl⟩) | (go_at_call 152; with_reducible refine (H2.out _).mono ?_; rintro e w' ⟨rfl, rfl⟩) | (go_at_call 87; with_reducible refine (H3.out _).mono ?_; rintro e w' ⟨rfl, rfl⟩) | (go_at_call 137; with_reducible refine (H5.out _).mono ?_; rintro e w' ⟨rfl, rfl⟩))
    refine bodyPost_ret (v := _) (by simp [results, Tryz.results177, go_sem] <;> rfl) rfl ?_
    refine ⟨rfl, by repeat (first | exact Below.refl _ _ | refine below_alloc ?_ _ | refine below_drew1 ?_ | refine pw_below_drewN ?_ _ | refine below_set ?_ (by first | omega | (simp; done)))⟩
  | true =>
    have H5 := Lib.hid (fun w => (show Calls Tryz.prog 137 #[.int .i64 a, .int .i64 4] w (fun e w' => e = .returned (.bool true) ∧ w = w') from t1 ▸ module_within a 4 w))
    clear t1
    go_enter Tryz.func177, Tryz.ntmps177
    go_wp2_with (first | (go_at_call 88; with_reducible refine (H1.out _).mono ?_; rintro e w' ⟨rfl, rfl⟩) | (go_at_call 152; with_reducible refine (H2.out _).mono ?_; rintro e w' ⟨rfl, rfl⟩) | (go_at_call 87; with_reducible refine (H3.out _).mono ?_; rintro e w' ⟨rfl, rfl⟩) | (go_at_call 137; with_reducible refine (H5.out _).mono ?_; rintro e w' ⟨rfl, rfl⟩) | (go_at_call 137; with_reducible refine (H4.out _).mono ?_; rintro e w' ⟨rfl, rfl⟩))
    refine bodyPost_ret (v := _) (by simp [results, Tryz.results177, go_sem] <;> rfl) rfl ?_
    refine ⟨rfl, by repeat (first | exact Below.refl _ _ | refine below_alloc ?_ _ | refine below_drew1 ?_ | refine pw_below_drewN ?_ _ | refine below_set ?_ (by first | omega | (simp; done)))⟩
set_option maxRecDepth 100000 in
set_option maxHeartbeats 2000000 in
theorem shape_14 (a b n : Int) (xs : List Int) (A : Option Addr) (c : Nat) (w : World) (hx : IntsC w A xs) : Calls Tryz.prog 177 #[.agg #[.int .i64 14, .int .i64 a, .int .i64 b, .int .u64 n, .slice A xs.length c]] w (ShapeEnd false false false true (decide (1 ≤ (xs.length : Int)) && (decide ((xs.length : Int) ≤ 17) && !xs.any (fun x => !Sp.within x 0 (65 - 1)))) w) := by
  have H1 := Lib.hid (fun w => (show Calls Tryz.prog 88 #[.int .i64 14] w (fun e w' => e = .returned (.tuple #[.int .i64 0, .int .i64 0, .bool false, .bool false]) ∧ w = w') from ops_Access 14 w))
  have H2 := Lib.hid (fun w => (show Calls Tryz.prog 152 #[.int .i64 14] w (fun e w' => e = .returned (.tuple #[.int .i64 0, .bool false]) ∧ w = w') from ops_Const 14 w))
  have H3 := Lib.hid (fun w => (show Calls Tryz.prog 87 #[.int .i64 14] w (fun e w' => e = .returned (.bool false) ∧ w = w') from ops_Opens 14 w))
  have HX := Lib.hid hx; clear hx
  by_cases h1 : 1 ≤ (xs.length : Int)
  · by_cases h2 : (xs.length : Int) ≤ 17
    · rw [decide_eq_true h1, decide_eq_true h2, Bool.true_and, Bool.true_and]
      go_enter Tryz.func177, Tryz.ntmps177
      go_wp2_with (first | (go_at_call 88; with_reducible refine (H1.out _).mono ?_; rintro e w' ⟨rfl, rfl⟩) | (go_at_call 152; with_reducible refine (H2.out _).mono ?_; rintro e w' ⟨rfl, rfl⟩) | (go_at_call 87; with_reducible refine (H3.out _).mono ?_; rintro e w' ⟨rfl, rfl⟩) | (go_at_call 133; with_reducible refine (contains_shapeOf1 A c xs _ ?hc).mono ?_; (case hc => (with_reducible repeat (first | exact HX.out | apply Kd.C_alloc | apply Kd.C_drew | apply Kd.C_drewN))); rintro e w' ⟨rfl, rfl⟩))
      refine bodyPost_ret (v := _) (by simp [results, Tryz.results177, go_sem] <;> rfl) rfl ?_
      refine ⟨rfl, by repeat (first | exact Below.refl _ _ | refine below_alloc ?_ _ | refine below_drew1 ?_ | refine pw_below_drewN ?_ _ | refine below_set ?_ (by first | omega | (simp; done)))⟩
    · rw [decide_eq_true h1, decide_eq_false h2, Bool.true_and, Bool.false_and]
      go_enter Tryz.func177, Tryz.ntmps177
      go_wp2_with (first | (go_at_call 88; with_reducible refine (H1.out _).mono ?_; rintro e w' ⟨rfl, rfl⟩) | (go_at_call 152; with_reducible refine (H2.out _).mono ?_; rintro e w' ⟨rfl, rfl⟩) | (go_at_call 87; with_reducible refine (H3.out _).mono ?_; rintro e w' ⟨rfl, rfl⟩))
      refine bodyPost_ret (v := _) (by simp [results, Tryz.results177, go_sem] <;> rfl) rfl ?_
      refine ⟨rfl, by repeat (first | exact Below.refl _ _ | refine below_alloc ?_ _ | refine below_drew1 ?_ | refine pw_below_drewN ?_ _ | refine below_set ?_ (by first | omega | (simp; done)))⟩
  · rw [decide_eq_false h1, Bool.false_and]
    go_enter Tryz.func177, Tryz.ntmps177
    go_wp2_with (first | (go_at_call 88; with_reducible refine (H1.out _).mono ?_; rintro e w' ⟨rfl, rfl⟩) | (go_at_call 152; with_reducible refine (H2.out _).mono ?_; rintro e w' ⟨rfl, rfl⟩) | (go_at_call 87; with_reducible refine (H3.out _).mono ?_; rintro e w' ⟨rfl, rfl⟩))
    refine bodyPost_ret (v := _) (by simp [results, Tryz.results177, go_sem] <;> rfl) rfl ?_
    refine ⟨rfl, by repeat (first | exact Below.refl _ _ | refine below_alloc ?_ _ | refine below_drew1 ?_ | refine pw_below_drewN ?_ _ | refine below_set ?_ (by first | omega | (simp; done)))⟩
set_option maxRecDepth 100000 in
set_option maxHeartbeats 2000000 in
theorem shape_2 (a b n : Int) (xs : List Int) (A : Option Addr) (c : Nat) (w : World) (hx : IntsC w A xs) : Calls Tryz.prog 177 #[.agg #[.int .i64 2, .int .i64 a, .int .i64 b, .int .u64 n, .slice A xs.length c]] w (ShapeEnd true false false false (Sp.within a (-4) 63) w) := by
  have H1 := Lib.hid (fun w => (show Calls Tryz.prog 88 #[.int .i64 2] w (fun e w' => e = .returned (.tuple #[.int .i64 0, .int .i64 0, .bool false, .bool false]) ∧ w = w') from ops_Access 2 w))
  have H2 := Lib.hid (fun w => (show Calls Tryz.prog 152 #[.int .i64 2] w (fun e w' => e = .returned (.tuple #[.int .i64 0, .bool false]) ∧ w = w') from ops_Const 2 w))
  have H3 := Lib.hid (fun w => (show Calls Tryz.prog 87 #[.int .i64 2] w (fun e w' => e = .returned (.bool true) ∧ w = w') from ops_Opens 2 w))
  clear hx
  unfold Sp.within
  by_cases h1 : -4 ≤ a
  · have g1 : decide (-4 ≤ a) = true := by simp; omega
    have g2 : decide (a < -4) = false := by simp; omega
    go_enter Tryz.func177, Tryz.ntmps177
    go_wp2_with (first | (go_at_call 88; with_reducible refine (H1.out _).mono ?_; rintro e w' ⟨rfl, rfl⟩) | (go_at_call 152; with_reducible refine (H2.out _).mono ?_; rintro e w' ⟨rfl, rfl⟩) | (go_at_call 87; with_reducible refine (H3.out _).mono ?_; rintro e w' ⟨rfl, rfl⟩))
    go_region
    go_wp2
    refine bodyPost_ret (v := _) (by simp [results, Tryz.results177, go_sem] <;> rfl) rfl ?_
    refine ⟨congrArg (fun b => Ending.returned (.tuple #[.agg #[.bool true, .bool false, .bool false, .bool false], .bool b])) ?_, by repeat (first | exact Below.refl _ _ | refine below_alloc ?_ _ | refine below_drew1 ?_ | refine pw_below_drewN ?_ _ | refine below_set ?_ (by first | omega | (simp; done)))⟩
    first | rfl | (rw [Bool.eq_iff_iff]; simp [h1]; done) | (rw [Bool.eq_iff_iff]; simp [h1]; omega)
  · have g1 : decide (-4 ≤ a) = false := by simp; omega
    have g2 : decide (a < -4) = true := by simp; omega
    go_enter Tryz.func177, Tryz.ntmps177
    go_wp2_with (first | (go_at_call 88; with_reducible refine (H1.out _).mono ?_; rintro e w' ⟨rfl, rfl⟩) | (go_at_call 152; with_reducible refine (H2.out _).mono ?_; rintro e w' ⟨rfl, rfl⟩) | (go_at_call 87; with_reducible refine (H3.out _).mono ?_; rintro e w' ⟨rfl, rfl⟩))
    go_region
    go_wp2
    refine bodyPost_ret (v := _) (by simp [results, Tryz.results177, go_sem] <;> rfl) rfl ?_
    refine ⟨congrArg (fun b => Ending.returned (.tuple #[.agg #[.bool true, .bool false, .bool false, .bool false], .bool b])) ?_, by repeat (first | exact Below.refl _ _ | refine below_alloc ?_ _ | refine below_drew1 ?_ | refine pw_below_drewN ?_ _ | refine below_set ?_ (by first | omega | (simp; done)))⟩
    first | rfl | (rw [Bool.eq_iff_iff]; simp [h1]; done) | (rw [Bool.eq_iff_iff]; simp [h1]; omega)
set_option maxRecDepth 100000 in
set_option maxHeartbeats 2000000 in
theorem shape_3 (a b n : Int) (xs : List Int) (A : Option Addr) (c : Nat) (w : World) (hx : IntsC w A xs) : Calls Tryz.prog 177 #[.agg #[.int .i64 3, .int .i64 a, .int .i64 b, .int .u64 n, .slice A xs.length c]] w (ShapeEnd true false false false (Sp.within a (-4) 63) w) := by
  have H1 := Lib.hid (fun w => (show Calls Tryz.prog 88 #[.int .i64 3] w (fun e w' => e = .returned (.tuple #[.int .i64 0, .int .i64 0, .bool false, .bool false]) ∧ w = w') from ops_Access 3 w))
  have H2 := Lib.hid (fun w => (show Calls Tryz.prog 152 #[.int .i64 3] w (fun e w' => e = .returned (.tuple #[.int .i64 0, .bool false]) ∧ w = w') from ops_Const 3 w))
  have H3 := Lib.hid (fun w => (show Calls Tryz.prog 87 #[.int .i64 3] w (fun e w' => e = .returned (.bool true) ∧ w = w') from ops_Opens 3 w))
  clear hx
  unfold Sp.within
  by_cases h1 : -4 ≤ a
  · have g1 : decide (-4 ≤ a) = true := by simp; omega
    have g2 : decide (a < -4) = false := by simp; omega
    go_enter Tryz.func177, Tryz.ntmps177
    go_wp2_with (first | (go_at_call 88; with_reducible refine (H1.out _).mono ?_; rintro e w' ⟨rfl, rfl⟩) | (go_at_call 152; with_reducible refine (H2.out _).mono ?_; rintro e w' ⟨rfl, rfl⟩) | (go_at_call 87; with_reducible refine (H3.out _).mono ?_; rintro e w' ⟨rfl, rfl⟩))
    go_region
    go_wp2
    refine bodyPost_ret (v := _) (by simp [results, Tryz.results177, go_sem] <;> rfl) rfl ?_
    refine ⟨congrArg (fun b => Ending.returned (.tuple #[.agg #[.bool true, .bool false, .bool false, .bool false], .bool b])) ?_, by repeat (first | exact Below.refl _ _ | refine below_alloc ?_ _ | refine below_drew1 ?_ | refine pw_below_drewN ?_ _ | refine below_set ?_ (by first | omega | (simp; done)))⟩
    first | rfl | (rw [Bool.eq_iff_iff]; simp [h1]; done) | (rw [Bool.eq_iff_iff]; simp [h1]; omega)
  · have g1 : decide (-4 ≤ a) = false := by simp; omega
    have g2 : decide (a < -4) = true := by simp; omega
    go_enter Tryz.func177, Tryz.ntmps177
    go_wp2_with (first | (go_at_call 88; with_reducible refine (H1.out _).mono ?_; rintro e w' ⟨rfl, rfl⟩) | (go_at_call 152; with_reducible refine (H2.out _).mono ?_; rintro e w' ⟨rfl, rfl⟩) | (go_at_call 87; with_reducible refine (H3.out _).mono ?_; rintro e w' ⟨rfl, rfl⟩))
    go_region
    go_wp2
    refine bodyPost_ret (v := _) (by simp [results, Tryz.results177, go_sem] <;> rfl) rfl ?_
    refine ⟨congrArg (fun b => Ending.returned (.tuple #[.agg #[.bool true, .bool false, .bool false, .bool false], .bool b])) ?_, by repeat (first | exact Below.refl _ _ | refine below_alloc ?_ _ | refine below_drew1 ?_ | refine pw_below_drewN ?_ _ | refine below_set ?_ (by first | omega | (simp; done)))⟩
    first | rfl | (rw [Bool.eq_iff_iff]; simp [h1]; done) | (rw [Bool.eq_iff_iff]; simp [h1]; omega)
set_option maxRecDepth 100000 in
set_option maxHeartbeats 2000000 in
theorem shape_4 (a b n : Int) (xs : List Int) (A : Option Addr) (c : Nat) (w : World) (hx : IntsC w A xs) : Calls Tryz.prog 177 #[.agg #[.int .i64 4, .int .i64 a, .int .i64 b, .int .u64 n, .slice A xs.length c]] w (ShapeEnd true false false false (Sp.within a (-4) 63) w) := by
  have H1 := Lib.hid (fun w => (show Calls Tryz.prog 88 #[.int .i64 4] w (fun e w' => e = .returned (.tuple #[.int .i64 0, .int .i64 0, .bool false, .bool false]) ∧ w = w') from ops_Access 4 w))
  have H2 := Lib.hid (fun w => (show Calls Tryz.prog 152 #[.int .i64 4] w (fun e w' => e = .returned (.tuple #[.int .i64 0, .bool false]) ∧ w = w') from ops_Const 4 w))
  have H3 := Lib.hid (fun w => (show Calls Tryz.prog 87 #[.int .i64 4] w (fun e w' => e = .returned (.bool true) ∧ w = w') from ops_Opens 4 w))
  clear hx
  unfold Sp.within
  by_cases h1 : -4 ≤ a
  · have g1 : decide (-4 ≤ a) = true := by simp; omega
    have g2 : decide (a < -4) = false := by simp; omega
    go_enter Tryz.func177, Tryz.ntmps177
    go_wp2_with (first | (go_at_call 88; with_reducible refine (H1.out _).mono ?_; rintro e w' ⟨rfl, rfl⟩) | (go_at_call 152; with_reducible refine (H2.out _).mono ?_; rintro e w' ⟨rfl, rfl⟩) | (go_at_call 87; with_reducible refine (H3.out _).mono ?_; rintro e w' ⟨rfl, rfl⟩))
    go_region
    go_wp2
    refine bodyPost_ret (v := _) (by simp [results, Tryz.results177, go_sem] <;> rfl) rfl ?_
    refine ⟨congrArg (fun b => Ending.returned (.tuple #[.agg #[.bool true, .bool false, .bool false, .bool false], .bool b])) ?_, by repeat (first | exact Below.refl _ _ | refine below_alloc ?_ _ | refine below_drew1 ?_ | refine pw_below_drewN ?_ _ | refine below_set ?_ (by first | omega | (simp; done)))⟩
    first | rfl | (rw [Bool.eq_iff_iff]; simp [h1]; done) | (rw [Bool.eq_iff_iff]; simp [h1]; omega)
  · have g1 : decide (-4 ≤ a) = false := by simp; omega
    have g2 : decide (a < -4) = true := by simp; omega
    go_enter Tryz.func177, Tryz.ntmps177
    go_wp2_with (first | (go_at_call 88; with_reducible refine (H1.out _).mono ?_; rintro e w' ⟨rfl, rfl⟩) | (go_at_call 152; with_reducible refine (H2.out _).mono ?_; rintro e w' ⟨rfl, rfl⟩) | (go_at_call 87; with_reducible refine (H3.out _).mono ?_; rintro e w' ⟨rfl, rfl⟩))
    go_region
    go_wp2
    refine bodyPost_ret (v := _) (by simp [results, Tryz.results177, go_sem] <;> rfl) rfl ?_
    refine ⟨congrArg (fun b => Ending.returned (.tuple #[.agg #[.bool true, .bool false, .bool false, .bool false], .bool b])) ?_, by repeat (first | exact Below.refl _ _ | refine below_alloc ?_ _ | refine below_drew1 ?_ | refine pw_below_drewN ?_ _ | refine below_set ?_ (by first | omega | (simp; done)))⟩
    first | rfl | (rw [Bool.eq_iff_iff]; simp [h1]; done) | (rw [Bool.eq_iff_iff]; simp [h1]; omega)
set_option maxRecDepth 100000 in
set_option maxHeartbeats 2000000 in
theorem shape_65 (a b n : Int) (xs : List Int) (A : Option Addr) (c : Nat) (w : World) (hx : IntsC w A xs) : Calls Tryz.prog 177 #[.agg #[.int .i64 65, .int .i64 a, .int .i64 b, .int .u64 n, .slice A xs.length c]] w (ShapeEnd false false true false (decide (n ≤ 4294967295)) w) := by
  have H1 := Lib.hid (fun w => (show Calls Tryz.prog 88 #[.int .i64 65] w (fun e w' => e = .returned (.tuple #[.int .i64 0, .int .i64 0, .bool false, .bool false]) ∧ w = w') from ops_Access 65 w))
  have H2 := Lib.hid (fun w => (show Calls Tryz.prog 152 #[.int .i64 65] w (fun e w' => e = .returned (.tuple #[.int .i64 127, .bool true]) ∧ w = w') from ops_Const 65 w))
  have H3 := Lib.hid (fun w => (show Calls Tryz.prog 87 #[.int .i64 65] w (fun e w' => e = .returned (.bool false) ∧ w = w') from ops_Opens 65 w))
  clear hx
  go_enter Tryz.func177, Tryz.ntmps177
  go_wp2_with (first | (go_at_call 88; with_reducible refine (H1.out _).mono ?_; rintro e w' ⟨rfl, rfl⟩) | (go_at_call 152; with_reducible refine (H2.out _).mono ?_; rintro e w' ⟨rfl, rfl⟩) | (go_at_call 87; with_reducible refine (H3.out _).mono ?_; rintro e w' ⟨rfl, rfl⟩))
  go_region
  go_wp2
  refine bodyPost_ret (v := _) (by simp [results, Tryz.results177, go_sem] <;> rfl) rfl ?_
  refine ⟨rfl, by repeat (first | exact Below.refl _ _ | refine below_alloc ?_ _ | refine below_drew1 ?_ | refine pw_below_drewN ?_ _ | refine below_set ?_ (by first | omega | (simp; done)))⟩
set_option maxRecDepth 100000 in
set_option maxHeartbeats 2000000 in
theorem shape_66 (a b n : Int) (xs : List Int) (A : Option Addr) (c : Nat) (w : World) (hx : IntsC w A xs) : Calls Tryz.prog 177 #[.agg #[.int .i64 66, .int .i64 a, .int .i64 b, .int .u64 n, .slice A xs.length c]] w (ShapeEnd false false true false true w) := by
  have H1 := Lib.hid (fun w => (show Calls Tryz.prog 88 #[.int .i64 66] w (fun e w' => e = .returned (.tuple #[.int .i64 0, .int .i64 0, .bool false, .bool false]) ∧ w = w') from ops_Access 66 w))
  have H2 := Lib.hid (fun w => (show Calls Tryz.prog 152 #[.int .i64 66] w (fun e w' => e = .returned (.tuple #[.int .i64 126, .bool true]) ∧ w = w') from ops_Const 66 w))
  have H3 := Lib.hid (fun w => (show Calls Tryz.prog 87 #[.int .i64 66] w (fun e w' => e = .returned (.bool false) ∧ w = w') from ops_Opens 66 w))
  clear hx
  go_enter Tryz.func177, Tryz.ntmps177
  go_wp2_with (first | (go_at_call 88; with_reducible refine (H1.out _).mono ?_; rintro e w' ⟨rfl, rfl⟩) | (go_at_call 152; with_reducible refine (H2.out _).mono ?_; rintro e w' ⟨rfl, rfl⟩) | (go_at_call 87; with_reducible refine (H3.out _).mono ?_; rintro e w' ⟨rfl, rfl⟩))
  go_region
  go_wp2
  refine bodyPost_ret (v := _) (by simp [results, Tryz.results177, go_sem] <;> rfl) rfl ?_
  refine ⟨rfl, by repeat (first | exact Below.refl _ _ | refine below_alloc ?_ _ | refine below_drew1 ?_ | refine pw_below_drewN ?_ _ | refine below_set ?_ (by first | omega | (simp; done)))⟩
set_option maxRecDepth 100000 in
set_option maxHeartbeats 2000000 in
theorem shape_68 (a b n : Int) (xs : List Int) (A : Option Addr) (c : Nat) (w : World) (hx : IntsC w A xs) : Calls Tryz.prog 177 #[.agg #[.int .i64 68, .int .i64 a, .int .i64 b, .int .u64 n, .slice A xs.length c]] w (ShapeEnd false false true false true w) := by
  have H1 := Lib.hid (fun w => (show Calls Tryz.prog 88 #[.int .i64 68] w (fun e w' => e = .returned (.tuple #[.int .i64 0, .int .i64 0, .bool false, .bool false]) ∧ w = w') from ops_Access 68 w))
  have H2 := Lib.hid (fun w => (show Calls Tryz.prog 152 #[.int .i64 68] w (fun e w' => e = .returned (.tuple #[.int .i64 124, .bool true]) ∧ w = w') from ops_Const 68 w))
  have H3 := Lib.hid (fun w => (show Calls Tryz.prog 87 #[.int .i64 68] w (fun e w' => e = .returned (.bool false) ∧ w = w') from ops_Opens 68 w))
  clear hx
  go_enter Tryz.func177, Tryz.ntmps177
  go_wp2_with (first | (go_at_call 88; with_reducible refine (H1.out _).mono ?_; rintro e w' ⟨rfl, rfl⟩) | (go_at_call 152; with_reducible refine (H2.out _).mono ?_; rintro e w' ⟨rfl, rfl⟩) | (go_at_call 87; with_reducible refine (H3.out _).mono ?_; rintro e w' ⟨rfl, rfl⟩))
  go_region
  go_wp2
  refine bodyPost_ret (v := _) (by simp [results, Tryz.results177, go_sem] <;> rfl) rfl ?_
  refine ⟨rfl, by repeat (first | exact Below.refl _ _ | refine below_alloc ?_ _ | refine below_drew1 ?_ | refine pw_below_drewN ?_ _ | refine below_set ?_ (by first | omega | (simp; done)))⟩
set_option maxRecDepth 100000 in
set_option maxHeartbeats 2000000 in
theorem shape_acc (op : Int) (hA : Sp.accB op = true) (hO : Sp.opens op = false) (a b n : Int) (xs : List Int) (A : Option Addr) (c : Nat) (w : World) (hx : IntsC w A xs) : Calls Tryz.prog 177 #[.agg #[.int .i64 op, .int .i64 a, .int .i64 b, .int .u64 n, .slice A xs.length c]] w (ShapeEnd true false true false (Sp.within a 0 (4 - 1) && decide (n ≤ 4294967295)) w) := by
  have H1 := Lib.hid (fun w => (show Calls Tryz.prog 88 #[.int .i64 op] w (fun e w' => e = .returned (.tuple #[.int .i64 (Sp.accN op), .int .i64 (Sp.accT0 op), .bool (Sp.accS op), .bool true]) ∧ w = w') from hA ▸ ops_Access op w))
  have H2 := Lib.hid (fun w => (show Calls Tryz.prog 152 #[.int .i64 op] w (fun e w' => e = .returned (.tuple #[.int .i64 (Sp.constT op), .bool (decide (Sp.constT op ≠ 0))]) ∧ w = w') from ops_Const op w))
  have H3 := Lib.hid (fun w => (show Calls Tryz.prog 87 #[.int .i64 op] w (fun e w' => e = .returned (.bool false) ∧ w = w') from hO ▸ ops_Opens op w))
  clear hx
  cases t1 : Sp.within a 0 (4 - 1) with
  | false =>
    have H5 := Lib.hid (fun w => (show Calls Tryz.prog 137 #[.int .i64 a, .int .i64 4] w (fun e w' => e = .returned (.bool false) ∧ w = w') from t1 ▸ module_within a 4 w))
    clear t1
    go_enter Tryz.func177, Tryz.ntmps177
    go_wp2_with (first | (go_at_call 88; with_reducible refine (H1.out _).mono ?_; rintro e w' ⟨rfl, rfl⟩) | (go_at_call 152; with_reducible refine (H2.out _).mono ?_; rintro e w' ⟨rfl, rfl⟩) | (go_at_call 87; with_reducible refine (H3.out _).mono ?_; rintro e w' ⟨rfl, rfl⟩))
    first | (go_region_with (go_at_call 137; with_reducible refine (H5.out _).mono ?_; rintro e w' ⟨rfl, rfl⟩)) | fail
    all_goals
      go_wp2
      refine bodyPost_ret (v := _) (by simp [results, Tryz.results177, go_sem] <;> rfl) rfl ?_
      refine ⟨rfl, by repeat (first | exact Below.refl _ _ | refine below_alloc ?_ _ | refine below_drew1 ?_ | refine pw_below_drewN ?_ _ | refine below_set ?_ (by first | omega | (simp; done)))⟩
  | true =>
    have H5 := Lib.hid (fun w => (show Calls Tryz.prog 137 #[.int .i64 a, .int .i64 4] w (fun e w' => e = .returned (.bool true) ∧ w = w') from t1 ▸ module_within a 4 w))
    clear t1
    go_enter Tryz.func177, Tryz.ntmps177
    go_wp2_with (first | (go_at_call 88; with_reducible refine (H1.out _).mono ?_; rintro e w' ⟨rfl, rfl⟩) | (go_at_call 152; with_reducible refine (H2.out _).mono ?_; rintro e w' ⟨rfl, rfl⟩) | (go_at_call 87; with_reducible refine (H3.out _).mono ?_; rintro e w' ⟨rfl, rfl⟩))
    first | (go_region_with (go_at_call 137; with_reducible refine (H5.out _).mono ?_; rintro e w' ⟨rfl, rfl⟩)) | fail
    all_goals
      go_wp2
      refine bodyPost_ret (v := _) (by simp [results, Tryz.results177, go_sem] <;> rfl) rfl ?_
      refine ⟨rfl, by repeat (first | exact Below.refl _ _ | refine below_alloc ?_ _ | refine below_drew1 ?_ | refine pw_below_drewN ?_ _ | refine below_set ?_ (by first | omega | (simp; done)))⟩
set_option maxRecDepth 100000 in
set_option maxHeartbeats 2000000 in
theorem shape_none (op : Int) (hA : Sp.accB op = false) (hO : Sp.opens op = false) (hC : decide (Sp.constT op ≠ 0) = false) (hn : ∀ k ∈ [12, 13, 14, 16, 18, 32, 33, 34, 35, 36, 63, 64, 64523, 64520, 64521, 64522], op ≠ k) (a b n : Int) (xs : List Int) (A : Option Addr) (c : Nat) (w : World) (hx : IntsC w A xs) : Calls Tryz.prog 177 #[.agg #[.int .i64 op, .int .i64 a, .int .i64 b, .int .u64 n, .slice A xs.length c]] w (ShapeEnd false false false false true w) := by
  have H1 := Lib.hid (fun w => (show Calls Tryz.prog 88 #[.int .i64 op] w (fun e w' => e = .returned (.tuple #[.int .i64 (Sp.accN op), .int .i64 (Sp.accT0 op), .bool (Sp.accS op), .bool false]) ∧ w = w') from hA ▸ ops_Access op w))
  have H2 := Lib.hid (fun w => (show Calls Tryz.prog 152 #[.int .i64 op] w (fun e w' => e = .returned (.tuple #[.int .i64 (Sp.constT op), .bool false]) ∧ w = w') from hC ▸ ops_Const op w))
  have H3 := Lib.hid (fun w => (show Calls Tryz.prog 87 #[.int .i64 op] w (fun e w' => e = .returned (.bool false) ∧ w = w') from hO ▸ ops_Opens op w))
  clear hx
  have n12 : (op == 12) = false := by simpa using hn 12 (by decide)
  have n13 : (op == 13) = false := by simpa using hn 13 (by decide)
  have n14 : (op == 14) = false := by simpa using hn 14 (by decide)
  have n16 : (op == 16) = false := by simpa using hn 16 (by decide)
  have n18 : (op == 18) = false := by simpa using hn 18 (by decide)
  have n32 : (op == 32) = false := by simpa using hn 32 (by decide)
  have n33 : (op == 33) = false := by simpa using hn 33 (by decide)
  have n34 : (op == 34) = false := by simpa using hn 34 (by decide)
  have n35 : (op == 35) = false := by simpa using hn 35 (by decide)
  have n36 : (op == 36) = false := by simpa using hn 36 (by decide)
  have n63 : (op == 63) = false := by simpa using hn 63 (by decide)
  have n64 : (op == 64) = false := by simpa using hn 64 (by decide)
  have n64523 : (op == 64523) = false := by simpa using hn 64523 (by decide)
  have n64520 : (op == 64520) = false := by simpa using hn 64520 (by decide)
  have n64521 : (op == 64521) = false := by simpa using hn 64521 (by decide)
  have n64522 : (op == 64522) = false := by simpa using hn 64522 (by decide)
  clear hn hA hO hC
  go_enter Tryz.func177, Tryz.ntmps177
  go_wp2_with (first | (go_at_call 88; with_reducible refine (H1.out _).mono ?_; rintro e w' ⟨rfl, rfl⟩) | (go_at_call 152; with_reducible refine (H2.out _).mono ?_; rintro e w' ⟨rfl, rfl⟩) | (go_at_call 87; with_reducible refine (H3.out _).mono ?_; rintro e w' ⟨rfl, rfl⟩))
  refine bodyPost_ret (v := _) (by simp [results, Tryz.results177, go_sem] <;> rfl) rfl ?_
  refine ⟨rfl, by repeat (first | exact Below.refl _ _ | refine below_alloc ?_ _ | refine below_drew1 ?_ | refine pw_below_drewN ?_ _ | refine below_set ?_ (by first | omega | (simp; done)))⟩
set_option maxRecDepth 100000 in
theorem module_shapeOf (i : SInst) (A : Option Addr) (c : Nat) (w : World) (hx : IntsC w A i.f4) : Calls Tryz.prog 177 #[.agg #[.int .i64 i.f0, .int .i64 i.f1, .int .i64 i.f2, .int .u64 i.f3, .slice A i.f4.length c]] w (ShapeEnd (Sp.askA i.f0) (Sp.askB i.f0) (Sp.askN i.f0) (Sp.askL i.f0) (Sp.shapeOk i) w) := by
  obtain ⟨op, a, b, n, xs⟩ := i
  by_cases h2 : op = 2
  · subst h2
    exact shape_2 a b n xs A c w hx
  by_cases h3 : op = 3
  · subst h3
    exact shape_3 a b n xs A c w hx
  by_cases h4 : op = 4
  · subst h4
    exact shape_4 a b n xs A c w hx
  by_cases h65 : op = 65
  · subst h65
    exact shape_65 a b n xs A c w hx
  by_cases h66 : op = 66
  · subst h66
    exact shape_66 a b n xs A c w hx
  by_cases h68 : op = 68
  · subst h68
    exact shape_68 a b n xs A c w hx
  by_cases h12 : op = 12
  · subst h12
    exact shape_12 a b n xs A c w hx
  by_cases h13 : op = 13
  · subst h13
    exact shape_13 a b n xs A c w hx
  by_cases h14 : op = 14
  · subst h14
    exact shape_14 a b n xs A c w hx
  by_cases h16 : op = 16
  · subst h16
    exact shape_16 a b n xs A c w hx
  by_cases h18 : op = 18
  · subst h18
    exact shape_18 a b n xs A c w hx
  by_cases h32 : op = 32
  · subst h32
    exact shape_32 a b n xs A c w hx
  by_cases h33 : op = 33
  · subst h33
    exact shape_33 a b n xs A c w hx
  by_cases h34 : op = 34
  · subst h34
    exact shape_34 a b n xs A c w hx
  by_cases h35 : op = 35
  · subst h35
    exact shape_35 a b n xs A c w hx
  by_cases h36 : op = 36
  · subst h36
    exact shape_36 a b n xs A c w hx
  by_cases h63 : op = 63
  · subst h63
    exact shape_63 a b n xs A c w hx
  by_cases h64 : op = 64
  · subst h64
    exact shape_64 a b n xs A c w hx
  by_cases h64523 : op = 64523
  · subst h64523
    exact shape_64523 a b n xs A c w hx
  by_cases h64520 : op = 64520
  · subst h64520
    exact shape_64520 a b n xs A c w hx
  by_cases h64521 : op = 64521
  · subst h64521
    exact shape_64521 a b n xs A c w hx
  by_cases h64522 : op = 64522
  · subst h64522
    exact shape_64522 a b n xs A c w hx
  have hO : Sp.opens op = false := by simp only [Sp.opens, Sp.within, decide_eq_false_iff_not]; omega
  have hCr := Sp.constT_range op
  have hC : Sp.constT op = 0 := by omega
  by_cases hA : Sp.accB op = true
  · have hr := Sp.accN_range op
    have hr2 : 0 < Sp.accN op := by simpa [Sp.accB] using hA
    have e1 : Sp.askA op = true := by simp [Sp.askA, hA]
    have e2 : Sp.askB op = false := by simp only [Sp.askB, decide_eq_false_iff_not]; omega
    have e3 : Sp.askN op = true := by simp [Sp.askN, hA]
    have e4 : Sp.askL op = false := by simp only [Sp.askL, decide_eq_false_iff_not]; omega
    have e5 : Sp.shapeOk ⟨op, a, b, n, xs⟩ = (Sp.within a 0 (4 - 1) && decide (n ≤ 4294967295)) := by unfold Sp.shapeOk; dsimp only; rw [if_neg (by simp [hO]), if_pos hA]
    dsimp only
    rw [e1, e2, e3, e4, e5]
    exact shape_acc op hA hO a b n xs A c w hx
  · have hA : Sp.accB op = false := by simpa using hA
    have e1 : Sp.askA op = false := by rw [Bool.eq_false_iff]; intro h; simp only [Sp.askA, hO, hA, Bool.or_false, Bool.false_or, decide_eq_true_eq] at h; omega
    have e2 : Sp.askB op = false := by simp only [Sp.askB, decide_eq_false_iff_not]; omega
    have e3 : Sp.askN op = false := by simp [Sp.askN, hA, hC]
    have e4 : Sp.askL op = false := by simp only [Sp.askL, decide_eq_false_iff_not]; omega
    have e5 : Sp.shapeOk ⟨op, a, b, n, xs⟩ = true := by unfold Sp.shapeOk; dsimp only; rw [if_neg (by simp [hO]), if_neg (by simp [hA]), if_neg (by omega), if_neg (by omega), if_neg (by omega), if_neg (by omega), if_neg (by omega), if_neg (by omega), if_neg (by omega), if_neg (by omega), if_neg (by omega)]
    dsimp only
    rw [e1, e2, e3, e4, e5]
    exact shape_none op hA hO (by simp [hC]) (by intro k hk; simp only [List.mem_cons, List.not_mem_nil, or_false] at hk; omega) a b n xs A c w hx
end Go.Proofs.YthehihjcpiadgaaGreat
end
section
namespace Go.Proofs.YthehihjcpiadgaaGreat
open Go.RowKit Go.Proofs.YthehihjcpiadgaaGreatW.PrintWords
set_option linter.unusedSimpArgs false
set_option linter.unusedVariables false
theorem len0 (xs : List Int) : ((xs.length : Int) == 0) = decide (xs = []) := by
  rw [Bool.eq_iff_iff, beq_iff_eq, decide_eq_true_iff]
  cases xs with
  | nil => simp
  | cons a l => simp; omega
set_option maxRecDepth 100000 in
set_option maxHeartbeats 4000000 in
theorem inst_walk (op a b n : Int) (xs : List Int) (A : Option Addr) (c : Nat) (w : World) (hx : IntsC w A xs) (kn ok fa fb fn fl : Bool)
    (HK : Hid (∀ w, Calls Tryz.prog 143 #[.int .i64 op] w fun e w' => e = .returned (.bool kn) ∧ w = w'))
    (HS : Hid (∀ w, IntsC w A xs → Calls Tryz.prog 177 #[.agg #[.int .i64 op, .int .i64 a, .int .i64 b, .int .u64 n, .slice A xs.length c]] w (ShapeEnd fa fb fn fl ok w))) :
    Calls Tryz.prog 128 #[.agg #[.int .i64 op, .int .i64 a, .int .i64 b, .int .u64 n, .slice A xs.length c]] w (BoolEnd (kn && (ok && ((fa || decide (a = 0)) && ((fb || decide (b = 0)) && ((fn || decide (n = 0)) && (fl || decide ((xs.length : Int) = 0))))))) w) := by
  have HX := Lib.hid hx; clear hx
  go_enter Tryz.func128, Tryz.ntmps128
  go_wp2_with (first
    | ((go_at_call 177); (with_reducible refine (HS.out _ ?hc).mono ?_); (case hc => (with_reducible repeat (first | exact HX.out | apply Kd.C_alloc | apply Kd.C_drew | apply Kd.C_drewN))); rintro e w1 ⟨rfl, hb1⟩; obtain ⟨hbca, hbcb⟩ := bcell hb1; have z1 : w.heap.size < w1.heap.size := (by have := hb1.size; first | omega | (simp at this; omega)); have c0 : w1.cell? ⟨w.heap.size, 0, none⟩ = some (.int .i64 op) := (hbca _ _ (by first | (simp; done) | (simp; omega) | omega)).trans (by first | (simp [go_sem]; done) | assumption); have c1 : w1.cell? ⟨w.heap.size, 1, none⟩ = some (.int .i64 a) := (hbca _ _ (by first | (simp; done) | (simp; omega) | omega)).trans (by first | (simp [go_sem]; done) | assumption); have c2 : w1.cell? ⟨w.heap.size, 2, none⟩ = some (.int .i64 b) := (hbca _ _ (by first | (simp; done) | (simp; omega) | omega)).trans (by first | (simp [go_sem]; done) | assumption); have c3 : w1.cell? ⟨w.heap.size, 3, none⟩ = some (.int .u64 n) := (hbca _ _ (by first | (simp; done) | (simp; omega) | omega)).trans (by first | (simp [go_sem]; done) | assumption); have c4 : w1.cell? ⟨w.heap.size, 4, none⟩ = some (.slice A xs.length c) := (hbca _ _ (by first | (simp; done) | (simp; omega) | omega)).trans (by first | (simp [go_sem]; done) | assumption); have HB1 := Lib.hid hb1; clear hb1 hbca hbcb)
    | ((go_at_call 143); (with_reducible refine (HK.out _).mono ?_); rintro e w' ⟨rfl, rfl⟩))
  all_goals
    go_ret
    refine ⟨congrArg (fun b => Ending.returned (.bool b)) ?_, by repeat (first | exact Below.refl _ _ | refine below_alloc ?_ _ | refine below_set ?_ (by omega) | refine below_step ?_ HB1.out)⟩
    first | (simp_all; done) | (simp_all; exact len0 _)
theorem module_Inst (i : SInst) (A : Option Addr) (c : Nat) (w : World) (hx : IntsC w A i.f4) : Calls Tryz.prog 128 #[.agg #[.int .i64 i.f0, .int .i64 i.f1, .int .i64 i.f2, .int .u64 i.f3, .slice A i.f4.length c]] w (BoolEnd (Sp.instOk i) w) := by
  unfold Sp.instOk
  exact inst_walk i.f0 i.f1 i.f2 i.f3 i.f4 A c w hx (Sp.known i.f0) (Sp.shapeOk i) (Sp.askA i.f0) (Sp.askB i.f0) (Sp.askN i.f0) (Sp.askL i.f0) (Lib.hid (fun w => ops_Known i.f0 w)) (Lib.hid (fun w h => module_shapeOf i A c w h))
end Go.Proofs.YthehihjcpiadgaaGreat
end
section
namespace Go.Proofs.YthehihjcpiadgaaGreat
open Go.RowKit Go.Proofs.YthehihjcpiadgaaGreatW.PrintWords
set_option linter.unusedSimpArgs false
set_option linter.unusedVariables false
set_option maxHeartbeats 2000000 in
theorem module_name (s : ByteArray) (w : World) : Calls Tryz.prog 66 #[.string s] w (BoolEnd (Sp.name s) w) := by
  unfold Sp.name
  by_cases h1 : s.size ≤ 64
  · have h1' : decide ((s.size : Int) ≤ 64) = true := by simp; omega
    rw [decide_eq_true h1, Bool.true_and]
    have kb := fun W => print_bytes (P := Tryz.prog) 9 51 5 Tryz.underlying9 Tryz.underlying51 Tryz.underlying5 s W
    have hk := text_some (bytesOf s) (by rw [bytesOf_length]; omega)
    have hr := Kd.C_of_reads (h1 := fun _ => rfl) (d := (0 : Int)) (enc := Value.int .u8) (bytes_reads w 5 s (by omega))
    rw [← bytesOf_length s] at hr
    have HT := Lib.hid (text_Right.calls 1000 (some ⟨w.heap.size, 0, none⟩) (grownCap w s.size 0 5) (bytesOf s) _ _ hr (by rw [bytesOf_length]; exact Go.grownCap_ge _ _ _ _) hk)
    rw [bytesOf_length] at HT
    clear hr hk
    go_enter Tryz.func66, Tryz.ntmps66
    go_wp2_with (first | (go_at_call 121; refine HT.out.mono ?_; rintro e w' ⟨rfl, hb⟩))
    go_ret
    exact ⟨rfl, (bytes_below (Below.refl _ _) (Nat.le_refl _) _ _).trans (hb.mono (by rw [Lib.bytesWorld_size]; omega))⟩
  · have h1' : decide ((s.size : Int) ≤ 64) = false := by simp; omega
    rw [decide_eq_false h1, Bool.false_and]
    go_enter Tryz.func66, Tryz.ntmps66
    go_wp2
    go_ret
    exact ⟨rfl, by repeat (first | exact Below.refl _ _ | refine below_alloc ?_ _)⟩
end Go.Proofs.YthehihjcpiadgaaGreat
end
section
namespace Go.Proofs.YthehihjcpiadgaaGreat
open Go.RowKit Go.Proofs.YthehihjcpiadgaaGreatW.PrintWords
set_option linter.unusedSimpArgs false
set_option linter.unusedVariables false
theorem take_noneS {α : Type} {p : α → Bool} {xs : List α} {k : Nat} {y : α} (h : (xs.take k).any p = false) (hx : k < xs.length) (z : α) (e : y = rdOf z xs (k : Int)) (he : p y = false) : (xs.take (k + 1)).any p = false := by
  subst e
  rw [List.take_succ_eq_append_getElem hx, List.any_append, h]
  simp [rdOf, List.getD_eq_getElem?_getD, hx] at he
  simp [he]
theorem any_atS {α : Type} {p : α → Bool} {xs : List α} {k : Nat} {y : α} (hx : k < xs.length) (z : α) (e : y = rdOf z xs (k : Int)) (he : p y = true) : xs.any p = true := by
  subst e
  rw [List.any_eq_true]
  simp [rdOf, List.getD_eq_getElem?_getD, hx] at he
  exact ⟨xs[k], List.getElem_mem hx, he⟩
/-- A place, or -1; new blocks alone. -/
def PlaceEndS (b : Bool) (w : World) (e : Ending) (w' : World) : Prop := ∃ r : Int, e = .returned (.int .i64 r) ∧ decide (0 ≤ r) = b ∧ Below w.heap.size w w'
set_option maxRecDepth 100000 in
set_option maxHeartbeats 2000000 in
theorem IndexFunc_Inst (G : Nat) (p : SInst → Bool) (hG : ∀ cs w, Sem.run Tryz.prog (callFunc G #[.agg cs]) w = .ok (.enter G #[.agg cs]) w) (hp : ∀ x cs w, kInst.K w x cs → Calls Tryz.prog G #[.agg cs.toArray] w (BoolEnd (p x) w)) (A : Option Addr) (cA : Nat) (xs : List SInst) (w : World) (hx : kInst.C w A xs.length xs) :
    Calls Tryz.prog 176 #[.slice A xs.length cA, .func (.func G) #[] #[]] w (PlaceEndS (xs.any p) w) := by
  have mx := Kd.C_max hx
  have HX := Lib.hid hx; have HP := Lib.hid hp; have HG := Lib.hid hG; clear hx hp hG
  go_enter Tryz.func176, Tryz.ntmps176
  go_wp2
  go_loopw [8] (fun i wr => ∃ k : Nat, k ≤ xs.length ∧ i = .int .i64 k ∧ Hid ((xs.take k).any p = false) ∧ Hid (Below w.heap.size w wr)) (fun i _ => xs.length - (intOf i).toNat)
  case atStart => exact ⟨0, by omega, rfl, Lib.hid rfl, Lib.hid (Below.refl _ _)⟩
  case round =>
    obtain ⟨k, hk, rfl, ht, hb⟩ := hrel
    rename_i wr _
    by_cases hlt : k < xs.length
    · obtain ⟨ad, A4, c4, rfl, e0, e1, e2, e3, e4, m4, q4⟩ := at_TInst (Kd.C_below HX.out hb.out) (k : Int) (by omega) (by omega)
      rw [Int.toNat_natCast] at e0 e1 e2 e3 e4
      have hkd := HP.out (rd_TInst xs k) _ wr (kInst_mk wr (rd_TInst xs k) m4 q4)
      have HK := Lib.hid hkd; clear hkd m4 q4
      cases hp : p (rd_TInst xs k) with
      | false =>
        rw [hp] at HK
        have HB := Lib.hid hp; clear hp
        go_wp2_with fail
        rw [HG.out, Oper.upon_enter]
        refine HK.out.mono ?_
        rintro e w' ⟨rfl, hb1⟩
        have hb2 := Lib.hid (hb.out.trans (hb1.mono hb.out.size)); clear hb1
        go_wp2_with fail
        go_roundw
        case rel => exact ⟨k + 1, by omega, by go_num, Lib.hid (take_noneS ht.out hlt zInst rfl HB.out), hb2⟩
        case measure => simp [intOf]; omega
      | true =>
        rw [hp] at HK
        have HB := Lib.hid hp; clear hp
        go_wp2_with fail
        rw [HG.out, Oper.upon_enter]
        refine HK.out.mono ?_
        rintro e w' ⟨rfl, hb1⟩
        have hb2 := Lib.hid (hb.out.trans (hb1.mono hb.out.size)); clear hb1
        go_wp2_with fail
        go_ret
        exact ⟨(k : Int), rfl, by rw [any_atS hlt zInst rfl HB.out]; simp, hb2.out⟩
    · go_wp2
      go_ret
      refine ⟨-1, rfl, ?_, hb.out⟩
      have : k = xs.length := by omega
      subst this
      have h := ht.out
      rw [List.take_of_length_le (Nat.le_refl _)] at h
      rw [h]
      rfl
set_option maxRecDepth 100000 in
theorem ContainsFunc_Inst (G : Nat) (p : SInst → Bool) (hG : ∀ cs w, Sem.run Tryz.prog (callFunc G #[.agg cs]) w = .ok (.enter G #[.agg cs]) w) (hp : ∀ x cs w, kInst.K w x cs → Calls Tryz.prog G #[.agg cs.toArray] w (BoolEnd (p x) w)) (A : Option Addr) (cA : Nat) (xs : List SInst) (w : World) (hx : kInst.C w A xs.length xs) :
    Calls Tryz.prog 126 #[.slice A xs.length cA, .func (.func G) #[] #[]] w (BoolEnd (xs.any p) w) := by
  have HC := Lib.hid (IndexFunc_Inst G p hG hp A cA xs w hx)
  clear hx hp hG
  go_enter Tryz.func126, Tryz.ntmps126
  go_wp2_with fail
  refine HC.out.mono ?_
  rintro e w' ⟨r, rfl, hr, hb⟩
  have HR := Lib.hid hr; have HB := Lib.hid hb; clear hr hb
  go_wp2_with fail
  go_ret
  have hr := HR.out
  exact ⟨by rw [← hr]; rfl, HB.out⟩
end Go.Proofs.YthehihjcpiadgaaGreat
end
section
namespace Go.Proofs.YthehihjcpiadgaaGreat
open Go.RowKit Go.Proofs.YthehihjcpiadgaaGreatW.PrintWords
set_option linter.unusedSimpArgs false
set_option linter.unusedVariables false
set_option maxRecDepth 100000 in
set_option maxHeartbeats 2000000 in
theorem IndexFuncC_Ty (G : Nat) (p : STy → Bool) (cap : Option Addr) (w : World) (hG : ∀ cs w, Sem.run Tryz.prog (callFunc G #[.agg cs, .pointer cap]) w = .ok (.enter G #[.agg cs, .pointer cap]) w) (hp : ∀ x cs wr, Below w.heap.size w wr → kTy.K wr x cs → Calls Tryz.prog G #[.agg cs.toArray, .pointer cap] wr (BoolEnd (p x) wr)) (A : Option Addr) (cA : Nat) (xs : List STy) (hx : kTy.C w A xs.length xs) :
    Calls Tryz.prog 171 #[.slice A xs.length cA, .func (.func G) #[] #[.pointer cap]] w (PlaceEndS (xs.any p) w) := by
  have mx := Kd.C_max hx
  have HX := Lib.hid hx; have HP := Lib.hid hp; have HG := Lib.hid hG; clear hx hp hG
  go_enter Tryz.func171, Tryz.ntmps171
  go_wp2
  go_loopw [8] (fun i wr => ∃ k : Nat, k ≤ xs.length ∧ i = .int .i64 k ∧ Hid ((xs.take k).any p = false) ∧ Hid (Below w.heap.size w wr)) (fun i _ => xs.length - (intOf i).toNat)
  case atStart => exact ⟨0, by omega, rfl, Lib.hid rfl, Lib.hid (Below.refl _ _)⟩
  case round =>
    obtain ⟨k, hk, rfl, ht, hb⟩ := hrel
    rename_i wr _
    by_cases hlt : k < xs.length
    · obtain ⟨ad, A0, c0, A1, c1, rfl, e0, e1, m0, q0, m1, q1⟩ := at_TTy (Kd.C_below HX.out hb.out) (k : Int) (by omega) (by omega)
      rw [Int.toNat_natCast] at e0 e1
      have hkd := HP.out (rd_TTy xs k) _ wr hb.out (kTy_mk wr (rd_TTy xs k) m0 q0 m1 q1)
      have HK := Lib.hid hkd; clear hkd m0 q0 m1 q1
      cases hp : p (rd_TTy xs k) with
      | false =>
        rw [hp] at HK
        have HB := Lib.hid hp; clear hp
        go_wp2_with fail
        rw [HG.out, Oper.upon_enter]
        refine HK.out.mono ?_
        rintro e w' ⟨rfl, hb1⟩
        have hb2 := Lib.hid (hb.out.trans (hb1.mono hb.out.size)); clear hb1
        go_wp2_with fail
        go_roundw
        case rel => exact ⟨k + 1, by omega, by go_num, Lib.hid (take_noneS ht.out hlt zTy rfl HB.out), hb2⟩
        case measure => simp [intOf]; omega
      | true =>
        rw [hp] at HK
        have HB := Lib.hid hp; clear hp
        go_wp2_with fail
        rw [HG.out, Oper.upon_enter]
        refine HK.out.mono ?_
        rintro e w' ⟨rfl, hb1⟩
        have hb2 := Lib.hid (hb.out.trans (hb1.mono hb.out.size)); clear hb1
        go_wp2_with fail
        go_ret
        exact ⟨(k : Int), rfl, by rw [any_atS hlt zTy rfl HB.out]; simp, hb2.out⟩
    · go_wp2
      go_ret
      refine ⟨-1, rfl, ?_, hb.out⟩
      have : k = xs.length := by omega
      subst this
      have h := ht.out
      rw [List.take_of_length_le (Nat.le_refl _)] at h
      rw [h]
      rfl
set_option maxRecDepth 100000 in
theorem ContainsFuncC_Ty (G : Nat) (p : STy → Bool) (cap : Option Addr) (w : World) (hG : ∀ cs w, Sem.run Tryz.prog (callFunc G #[.agg cs, .pointer cap]) w = .ok (.enter G #[.agg cs, .pointer cap]) w) (hp : ∀ x cs wr, Below w.heap.size w wr → kTy.K wr x cs → Calls Tryz.prog G #[.agg cs.toArray, .pointer cap] wr (BoolEnd (p x) wr)) (A : Option Addr) (cA : Nat) (xs : List STy) (hx : kTy.C w A xs.length xs) :
    Calls Tryz.prog 117 #[.slice A xs.length cA, .func (.func G) #[] #[.pointer cap]] w (BoolEnd (xs.any p) w) := by
  have HC := Lib.hid (IndexFuncC_Ty G p cap w hG hp A cA xs hx)
  clear hx hp hG
  go_enter Tryz.func117, Tryz.ntmps117
  go_wp2_with fail
  refine HC.out.mono ?_
  rintro e w' ⟨r, rfl, hr, hb⟩
  have HR := Lib.hid hr; have HB := Lib.hid hb; clear hr hb
  go_wp2_with fail
  go_ret
  have hr := HR.out
  exact ⟨by rw [← hr]; rfl, HB.out⟩
set_option maxRecDepth 100000 in
set_option maxHeartbeats 2000000 in
theorem IndexFuncC_Imp (G : Nat) (p : SImp → Bool) (cap : Option Addr) (w : World) (hG : ∀ cs w, Sem.run Tryz.prog (callFunc G #[.agg cs, .pointer cap]) w = .ok (.enter G #[.agg cs, .pointer cap]) w) (hp : ∀ x cs wr, Below w.heap.size w wr → kImp.K wr x cs → Calls Tryz.prog G #[.agg cs.toArray, .pointer cap] wr (BoolEnd (p x) wr)) (A : Option Addr) (cA : Nat) (xs : List SImp) (hx : kImp.C w A xs.length xs) :
    Calls Tryz.prog 172 #[.slice A xs.length cA, .func (.func G) #[] #[.pointer cap]] w (PlaceEndS (xs.any p) w) := by
  have mx := Kd.C_max hx
  have HX := Lib.hid hx; have HP := Lib.hid hp; have HG := Lib.hid hG; clear hx hp hG
  go_enter Tryz.func172, Tryz.ntmps172
  go_wp2
  go_loopw [8] (fun i wr => ∃ k : Nat, k ≤ xs.length ∧ i = .int .i64 k ∧ Hid ((xs.take k).any p = false) ∧ Hid (Below w.heap.size w wr)) (fun i _ => xs.length - (intOf i).toNat)
  case atStart => exact ⟨0, by omega, rfl, Lib.hid rfl, Lib.hid (Below.refl _ _)⟩
  case round =>
    obtain ⟨k, hk, rfl, ht, hb⟩ := hrel
    rename_i wr _
    by_cases hlt : k < xs.length
    · obtain ⟨ad, rfl, e0, e1, e2⟩ := at_TImp (Kd.C_below HX.out hb.out) (k : Int) (by omega) (by omega)
      rw [Int.toNat_natCast] at e0 e1 e2
      have hkd := HP.out (rd_TImp xs k) _ wr hb.out (kImp_mk wr (rd_TImp xs k))
      have HK := Lib.hid hkd; clear hkd
      cases hp : p (rd_TImp xs k) with
      | false =>
        rw [hp] at HK
        have HB := Lib.hid hp; clear hp
        go_wp2_with fail
        rw [HG.out, Oper.upon_enter]
        refine HK.out.mono ?_
        rintro e w' ⟨rfl, hb1⟩
        have hb2 := Lib.hid (hb.out.trans (hb1.mono hb.out.size)); clear hb1
        go_wp2_with fail
        go_roundw
        case rel => exact ⟨k + 1, by omega, by go_num, Lib.hid (take_noneS ht.out hlt zImp rfl HB.out), hb2⟩
        case measure => simp [intOf]; omega
      | true =>
        rw [hp] at HK
        have HB := Lib.hid hp; clear hp
        go_wp2_with fail
        rw [HG.out, Oper.upon_enter]
        refine HK.out.mono ?_
        rintro e w' ⟨rfl, hb1⟩
        have hb2 := Lib.hid (hb.out.trans (hb1.mono hb.out.size)); clear hb1
        go_wp2_with fail
        go_ret
        exact ⟨(k : Int), rfl, by rw [any_atS hlt zImp rfl HB.out]; simp, hb2.out⟩
    · go_wp2
      go_ret
      refine ⟨-1, rfl, ?_, hb.out⟩
      have : k = xs.length := by omega
      subst this
      have h := ht.out
      rw [List.take_of_length_le (Nat.le_refl _)] at h
      rw [h]
      rfl
set_option maxRecDepth 100000 in
theorem ContainsFuncC_Imp (G : Nat) (p : SImp → Bool) (cap : Option Addr) (w : World) (hG : ∀ cs w, Sem.run Tryz.prog (callFunc G #[.agg cs, .pointer cap]) w = .ok (.enter G #[.agg cs, .pointer cap]) w) (hp : ∀ x cs wr, Below w.heap.size w wr → kImp.K wr x cs → Calls Tryz.prog G #[.agg cs.toArray, .pointer cap] wr (BoolEnd (p x) wr)) (A : Option Addr) (cA : Nat) (xs : List SImp) (hx : kImp.C w A xs.length xs) :
    Calls Tryz.prog 119 #[.slice A xs.length cA, .func (.func G) #[] #[.pointer cap]] w (BoolEnd (xs.any p) w) := by
  have HC := Lib.hid (IndexFuncC_Imp G p cap w hG hp A cA xs hx)
  clear hx hp hG
  go_enter Tryz.func119, Tryz.ntmps119
  go_wp2_with fail
  refine HC.out.mono ?_
  rintro e w' ⟨r, rfl, hr, hb⟩
  have HR := Lib.hid hr; have HB := Lib.hid hb; clear hr hb
  go_wp2_with fail
  go_ret
  have hr := HR.out
  exact ⟨by rw [← hr]; rfl, HB.out⟩
set_option maxRecDepth 100000 in
set_option maxHeartbeats 2000000 in
theorem IndexFuncC_Fun (G : Nat) (p : SFun → Bool) (cap : Option Addr) (w : World) (hG : ∀ cs w, Sem.run Tryz.prog (callFunc G #[.agg cs, .pointer cap]) w = .ok (.enter G #[.agg cs, .pointer cap]) w) (hp : ∀ x cs wr, Below w.heap.size w wr → kFun.K wr x cs → Calls Tryz.prog G #[.agg cs.toArray, .pointer cap] wr (BoolEnd (p x) wr)) (A : Option Addr) (cA : Nat) (xs : List SFun) (hx : kFun.C w A xs.length xs) :
    Calls Tryz.prog 175 #[.slice A xs.length cA, .func (.func G) #[] #[.pointer cap]] w (PlaceEndS (xs.any p) w) := by
  have mx := Kd.C_max hx
  have HX := Lib.hid hx; have HP := Lib.hid hp; have HG := Lib.hid hG; clear hx hp hG
  go_enter Tryz.func175, Tryz.ntmps175
  go_wp2
  go_loopw [8] (fun i wr => ∃ k : Nat, k ≤ xs.length ∧ i = .int .i64 k ∧ Hid ((xs.take k).any p = false) ∧ Hid (Below w.heap.size w wr)) (fun i _ => xs.length - (intOf i).toNat)
  case atStart => exact ⟨0, by omega, rfl, Lib.hid rfl, Lib.hid (Below.refl _ _)⟩
  case round =>
    obtain ⟨k, hk, rfl, ht, hb⟩ := hrel
    rename_i wr _
    by_cases hlt : k < xs.length
    · obtain ⟨ad, A1, c1, A2, c2, rfl, e0, e1, e2, m1, q1, m2, q2⟩ := at_TFun (Kd.C_below HX.out hb.out) (k : Int) (by omega) (by omega)
      rw [Int.toNat_natCast] at e0 e1 e2
      have hkd := HP.out (rd_TFun xs k) _ wr hb.out (kFun_mk wr (rd_TFun xs k) m1 q1 m2 q2)
      have HK := Lib.hid hkd; clear hkd m1 q1 m2 q2
      cases hp : p (rd_TFun xs k) with
      | false =>
        rw [hp] at HK
        have HB := Lib.hid hp; clear hp
        go_wp2_with fail
        rw [HG.out, Oper.upon_enter]
        refine HK.out.mono ?_
        rintro e w' ⟨rfl, hb1⟩
        have hb2 := Lib.hid (hb.out.trans (hb1.mono hb.out.size)); clear hb1
        go_wp2_with fail
        go_roundw
        case rel => exact ⟨k + 1, by omega, by go_num, Lib.hid (take_noneS ht.out hlt zFun rfl HB.out), hb2⟩
        case measure => simp [intOf]; omega
      | true =>
        rw [hp] at HK
        have HB := Lib.hid hp; clear hp
        go_wp2_with fail
        rw [HG.out, Oper.upon_enter]
        refine HK.out.mono ?_
        rintro e w' ⟨rfl, hb1⟩
        have hb2 := Lib.hid (hb.out.trans (hb1.mono hb.out.size)); clear hb1
        go_wp2_with fail
        go_ret
        exact ⟨(k : Int), rfl, by rw [any_atS hlt zFun rfl HB.out]; simp, hb2.out⟩
    · go_wp2
      go_ret
      refine ⟨-1, rfl, ?_, hb.out⟩
      have : k = xs.length := by omega
      subst this
      have h := ht.out
      rw [List.take_of_length_le (Nat.le_refl _)] at h
      rw [h]
      rfl
set_option maxRecDepth 100000 in
theorem ContainsFuncC_Fun (G : Nat) (p : SFun → Bool) (cap : Option Addr) (w : World) (hG : ∀ cs w, Sem.run Tryz.prog (callFunc G #[.agg cs, .pointer cap]) w = .ok (.enter G #[.agg cs, .pointer cap]) w) (hp : ∀ x cs wr, Below w.heap.size w wr → kFun.K wr x cs → Calls Tryz.prog G #[.agg cs.toArray, .pointer cap] wr (BoolEnd (p x) wr)) (A : Option Addr) (cA : Nat) (xs : List SFun) (hx : kFun.C w A xs.length xs) :
    Calls Tryz.prog 124 #[.slice A xs.length cA, .func (.func G) #[] #[.pointer cap]] w (BoolEnd (xs.any p) w) := by
  have HC := Lib.hid (IndexFuncC_Fun G p cap w hG hp A cA xs hx)
  clear hx hp hG
  go_enter Tryz.func124, Tryz.ntmps124
  go_wp2_with fail
  refine HC.out.mono ?_
  rintro e w' ⟨r, rfl, hr, hb⟩
  have HR := Lib.hid hr; have HB := Lib.hid hb; clear hr hb
  go_wp2_with fail
  go_ret
  have hr := HR.out
  exact ⟨by rw [← hr]; rfl, HB.out⟩
set_option maxRecDepth 100000 in
set_option maxHeartbeats 2000000 in
theorem IndexFuncC_Mem (G : Nat) (p : SMem → Bool) (cap : Option Addr) (w : World) (hG : ∀ cs w, Sem.run Tryz.prog (callFunc G #[.agg cs, .pointer cap]) w = .ok (.enter G #[.agg cs, .pointer cap]) w) (hp : ∀ x cs wr, Below w.heap.size w wr → kMem.K wr x cs → Calls Tryz.prog G #[.agg cs.toArray, .pointer cap] wr (BoolEnd (p x) wr)) (A : Option Addr) (cA : Nat) (xs : List SMem) (hx : kMem.C w A xs.length xs) :
    Calls Tryz.prog 178 #[.slice A xs.length cA, .func (.func G) #[] #[.pointer cap]] w (PlaceEndS (xs.any p) w) := by
  have mx := Kd.C_max hx
  have HX := Lib.hid hx; have HP := Lib.hid hp; have HG := Lib.hid hG; clear hx hp hG
  go_enter Tryz.func178, Tryz.ntmps178
  go_wp2
  go_loopw [8] (fun i wr => ∃ k : Nat, k ≤ xs.length ∧ i = .int .i64 k ∧ Hid ((xs.take k).any p = false) ∧ Hid (Below w.heap.size w wr)) (fun i _ => xs.length - (intOf i).toNat)
  case atStart => exact ⟨0, by omega, rfl, Lib.hid rfl, Lib.hid (Below.refl _ _)⟩
  case round =>
    obtain ⟨k, hk, rfl, ht, hb⟩ := hrel
    rename_i wr _
    by_cases hlt : k < xs.length
    · obtain ⟨ad, rfl, e0, e1⟩ := at_TMem (Kd.C_below HX.out hb.out) (k : Int) (by omega) (by omega)
      rw [Int.toNat_natCast] at e0 e1
      have hkd := HP.out (rd_TMem xs k) _ wr hb.out (kMem_mk wr (rd_TMem xs k))
      have HK := Lib.hid hkd; clear hkd
      cases hp : p (rd_TMem xs k) with
      | false =>
        rw [hp] at HK
        have HB := Lib.hid hp; clear hp
        go_wp2_with fail
        rw [HG.out, Oper.upon_enter]
        refine HK.out.mono ?_
        rintro e w' ⟨rfl, hb1⟩
        have hb2 := Lib.hid (hb.out.trans (hb1.mono hb.out.size)); clear hb1
        go_wp2_with fail
        go_roundw
        case rel => exact ⟨k + 1, by omega, by go_num, Lib.hid (take_noneS ht.out hlt zMem rfl HB.out), hb2⟩
        case measure => simp [intOf]; omega
      | true =>
        rw [hp] at HK
        have HB := Lib.hid hp; clear hp
        go_wp2_with fail
        rw [HG.out, Oper.upon_enter]
        refine HK.out.mono ?_
        rintro e w' ⟨rfl, hb1⟩
        have hb2 := Lib.hid (hb.out.trans (hb1.mono hb.out.size)); clear hb1
        go_wp2_with fail
        go_ret
        exact ⟨(k : Int), rfl, by rw [any_atS hlt zMem rfl HB.out]; simp, hb2.out⟩
    · go_wp2
      go_ret
      refine ⟨-1, rfl, ?_, hb.out⟩
      have : k = xs.length := by omega
      subst this
      have h := ht.out
      rw [List.take_of_length_le (Nat.le_refl _)] at h
      rw [h]
      rfl
set_option maxRecDepth 100000 in
theorem ContainsFuncC_Mem (G : Nat) (p : SMem → Bool) (cap : Option Addr) (w : World) (hG : ∀ cs w, Sem.run Tryz.prog (callFunc G #[.agg cs, .pointer cap]) w = .ok (.enter G #[.agg cs, .pointer cap]) w) (hp : ∀ x cs wr, Below w.heap.size w wr → kMem.K wr x cs → Calls Tryz.prog G #[.agg cs.toArray, .pointer cap] wr (BoolEnd (p x) wr)) (A : Option Addr) (cA : Nat) (xs : List SMem) (hx : kMem.C w A xs.length xs) :
    Calls Tryz.prog 129 #[.slice A xs.length cA, .func (.func G) #[] #[.pointer cap]] w (BoolEnd (xs.any p) w) := by
  have HC := Lib.hid (IndexFuncC_Mem G p cap w hG hp A cA xs hx)
  clear hx hp hG
  go_enter Tryz.func129, Tryz.ntmps129
  go_wp2_with fail
  refine HC.out.mono ?_
  rintro e w' ⟨r, rfl, hr, hb⟩
  have HR := Lib.hid hr; have HB := Lib.hid hb; clear hr hb
  go_wp2_with fail
  go_ret
  have hr := HR.out
  exact ⟨by rw [← hr]; rfl, HB.out⟩
set_option maxRecDepth 100000 in
set_option maxHeartbeats 2000000 in
theorem IndexFuncC_Glob (G : Nat) (p : SGlob → Bool) (cap : Option Addr) (w : World) (hG : ∀ cs w, Sem.run Tryz.prog (callFunc G #[.agg cs, .pointer cap]) w = .ok (.enter G #[.agg cs, .pointer cap]) w) (hp : ∀ x cs wr, Below w.heap.size w wr → kGlob.K wr x cs → Calls Tryz.prog G #[.agg cs.toArray, .pointer cap] wr (BoolEnd (p x) wr)) (A : Option Addr) (cA : Nat) (xs : List SGlob) (hx : kGlob.C w A xs.length xs) :
    Calls Tryz.prog 179 #[.slice A xs.length cA, .func (.func G) #[] #[.pointer cap]] w (PlaceEndS (xs.any p) w) := by
  have mx := Kd.C_max hx
  have HX := Lib.hid hx; have HP := Lib.hid hp; have HG := Lib.hid hG; clear hx hp hG
  go_enter Tryz.func179, Tryz.ntmps179
  go_wp2
  go_loopw [8] (fun i wr => ∃ k : Nat, k ≤ xs.length ∧ i = .int .i64 k ∧ Hid ((xs.take k).any p = false) ∧ Hid (Below w.heap.size w wr)) (fun i _ => xs.length - (intOf i).toNat)
  case atStart => exact ⟨0, by omega, rfl, Lib.hid rfl, Lib.hid (Below.refl _ _)⟩
  case round =>
    obtain ⟨k, hk, rfl, ht, hb⟩ := hrel
    rename_i wr _
    by_cases hlt : k < xs.length
    · obtain ⟨ad, rfl, e0, e1, e2⟩ := at_TGlob (Kd.C_below HX.out hb.out) (k : Int) (by omega) (by omega)
      rw [Int.toNat_natCast] at e0 e1 e2
      have hkd := HP.out (rd_TGlob xs k) _ wr hb.out (kGlob_mk wr (rd_TGlob xs k))
      have HK := Lib.hid hkd; clear hkd
      cases hp : p (rd_TGlob xs k) with
      | false =>
        rw [hp] at HK
        have HB := Lib.hid hp; clear hp
        go_wp2_with fail
        rw [HG.out, Oper.upon_enter]
        refine HK.out.mono ?_
        rintro e w' ⟨rfl, hb1⟩
        have hb2 := Lib.hid (hb.out.trans (hb1.mono hb.out.size)); clear hb1
        go_wp2_with fail
        go_roundw
        case rel => exact ⟨k + 1, by omega, by go_num, Lib.hid (take_noneS ht.out hlt zGlob rfl HB.out), hb2⟩
        case measure => simp [intOf]; omega
      | true =>
        rw [hp] at HK
        have HB := Lib.hid hp; clear hp
        go_wp2_with fail
        rw [HG.out, Oper.upon_enter]
        refine HK.out.mono ?_
        rintro e w' ⟨rfl, hb1⟩
        have hb2 := Lib.hid (hb.out.trans (hb1.mono hb.out.size)); clear hb1
        go_wp2_with fail
        go_ret
        exact ⟨(k : Int), rfl, by rw [any_atS hlt zGlob rfl HB.out]; simp, hb2.out⟩
    · go_wp2
      go_ret
      refine ⟨-1, rfl, ?_, hb.out⟩
      have : k = xs.length := by omega
      subst this
      have h := ht.out
      rw [List.take_of_length_le (Nat.le_refl _)] at h
      rw [h]
      rfl
set_option maxRecDepth 100000 in
theorem ContainsFuncC_Glob (G : Nat) (p : SGlob → Bool) (cap : Option Addr) (w : World) (hG : ∀ cs w, Sem.run Tryz.prog (callFunc G #[.agg cs, .pointer cap]) w = .ok (.enter G #[.agg cs, .pointer cap]) w) (hp : ∀ x cs wr, Below w.heap.size w wr → kGlob.K wr x cs → Calls Tryz.prog G #[.agg cs.toArray, .pointer cap] wr (BoolEnd (p x) wr)) (A : Option Addr) (cA : Nat) (xs : List SGlob) (hx : kGlob.C w A xs.length xs) :
    Calls Tryz.prog 131 #[.slice A xs.length cA, .func (.func G) #[] #[.pointer cap]] w (BoolEnd (xs.any p) w) := by
  have HC := Lib.hid (IndexFuncC_Glob G p cap w hG hp A cA xs hx)
  clear hx hp hG
  go_enter Tryz.func131, Tryz.ntmps131
  go_wp2_with fail
  refine HC.out.mono ?_
  rintro e w' ⟨r, rfl, hr, hb⟩
  have HR := Lib.hid hr; have HB := Lib.hid hb; clear hr hb
  go_wp2_with fail
  go_ret
  have hr := HR.out
  exact ⟨by rw [← hr]; rfl, HB.out⟩
set_option maxRecDepth 100000 in
set_option maxHeartbeats 2000000 in
theorem IndexFuncC_Data (G : Nat) (p : SData → Bool) (cap : Option Addr) (w : World) (hG : ∀ cs w, Sem.run Tryz.prog (callFunc G #[.agg cs, .pointer cap]) w = .ok (.enter G #[.agg cs, .pointer cap]) w) (hp : ∀ x cs wr, Below w.heap.size w wr → kData.K wr x cs → Calls Tryz.prog G #[.agg cs.toArray, .pointer cap] wr (BoolEnd (p x) wr)) (A : Option Addr) (cA : Nat) (xs : List SData) (hx : kData.C w A xs.length xs) :
    Calls Tryz.prog 181 #[.slice A xs.length cA, .func (.func G) #[] #[.pointer cap]] w (PlaceEndS (xs.any p) w) := by
  have mx := Kd.C_max hx
  have HX := Lib.hid hx; have HP := Lib.hid hp; have HG := Lib.hid hG; clear hx hp hG
  go_enter Tryz.func181, Tryz.ntmps181
  go_wp2
  go_loopw [8] (fun i wr => ∃ k : Nat, k ≤ xs.length ∧ i = .int .i64 k ∧ Hid ((xs.take k).any p = false) ∧ Hid (Below w.heap.size w wr)) (fun i _ => xs.length - (intOf i).toNat)
  case atStart => exact ⟨0, by omega, rfl, Lib.hid rfl, Lib.hid (Below.refl _ _)⟩
  case round =>
    obtain ⟨k, hk, rfl, ht, hb⟩ := hrel
    rename_i wr _
    by_cases hlt : k < xs.length
    · obtain ⟨ad, A3, c3, rfl, e0, e1, e2, e3, m3, q3⟩ := at_TData (Kd.C_below HX.out hb.out) (k : Int) (by omega) (by omega)
      rw [Int.toNat_natCast] at e0 e1 e2 e3
      have hkd := HP.out (rd_TData xs k) _ wr hb.out (kData_mk wr (rd_TData xs k) m3 q3)
      have HK := Lib.hid hkd; clear hkd m3 q3
      cases hp : p (rd_TData xs k) with
      | false =>
        rw [hp] at HK
        have HB := Lib.hid hp; clear hp
        go_wp2_with fail
        rw [HG.out, Oper.upon_enter]
        refine HK.out.mono ?_
        rintro e w' ⟨rfl, hb1⟩
        have hb2 := Lib.hid (hb.out.trans (hb1.mono hb.out.size)); clear hb1
        go_wp2_with fail
        go_roundw
        case rel => exact ⟨k + 1, by omega, by go_num, Lib.hid (take_noneS ht.out hlt zData rfl HB.out), hb2⟩
        case measure => simp [intOf]; omega
      | true =>
        rw [hp] at HK
        have HB := Lib.hid hp; clear hp
        go_wp2_with fail
        rw [HG.out, Oper.upon_enter]
        refine HK.out.mono ?_
        rintro e w' ⟨rfl, hb1⟩
        have hb2 := Lib.hid (hb.out.trans (hb1.mono hb.out.size)); clear hb1
        go_wp2_with fail
        go_ret
        exact ⟨(k : Int), rfl, by rw [any_atS hlt zData rfl HB.out]; simp, hb2.out⟩
    · go_wp2
      go_ret
      refine ⟨-1, rfl, ?_, hb.out⟩
      have : k = xs.length := by omega
      subst this
      have h := ht.out
      rw [List.take_of_length_le (Nat.le_refl _)] at h
      rw [h]
      rfl
set_option maxRecDepth 100000 in
theorem ContainsFuncC_Data (G : Nat) (p : SData → Bool) (cap : Option Addr) (w : World) (hG : ∀ cs w, Sem.run Tryz.prog (callFunc G #[.agg cs, .pointer cap]) w = .ok (.enter G #[.agg cs, .pointer cap]) w) (hp : ∀ x cs wr, Below w.heap.size w wr → kData.K wr x cs → Calls Tryz.prog G #[.agg cs.toArray, .pointer cap] wr (BoolEnd (p x) wr)) (A : Option Addr) (cA : Nat) (xs : List SData) (hx : kData.C w A xs.length xs) :
    Calls Tryz.prog 135 #[.slice A xs.length cA, .func (.func G) #[] #[.pointer cap]] w (BoolEnd (xs.any p) w) := by
  have HC := Lib.hid (IndexFuncC_Data G p cap w hG hp A cA xs hx)
  clear hx hp hG
  go_enter Tryz.func135, Tryz.ntmps135
  go_wp2_with fail
  refine HC.out.mono ?_
  rintro e w' ⟨r, rfl, hr, hb⟩
  have HR := Lib.hid hr; have HB := Lib.hid hb; clear hr hb
  go_wp2_with fail
  go_ret
  have hr := HR.out
  exact ⟨by rw [← hr]; rfl, HB.out⟩
set_option maxRecDepth 100000 in
set_option maxHeartbeats 2000000 in
theorem IndexFuncC_Cus (G : Nat) (p : SCus → Bool) (cap : Option Addr) (w : World) (hG : ∀ cs w, Sem.run Tryz.prog (callFunc G #[.agg cs, .pointer cap]) w = .ok (.enter G #[.agg cs, .pointer cap]) w) (hp : ∀ x cs wr, Below w.heap.size w wr → kCus.K wr x cs → Calls Tryz.prog G #[.agg cs.toArray, .pointer cap] wr (BoolEnd (p x) wr)) (A : Option Addr) (cA : Nat) (xs : List SCus) (hx : kCus.C w A xs.length xs) :
    Calls Tryz.prog 174 #[.slice A xs.length cA, .func (.func G) #[] #[.pointer cap]] w (PlaceEndS (xs.any p) w) := by
  have mx := Kd.C_max hx
  have HX := Lib.hid hx; have HP := Lib.hid hp; have HG := Lib.hid hG; clear hx hp hG
  go_enter Tryz.func174, Tryz.ntmps174
  go_wp2
  go_loopw [8] (fun i wr => ∃ k : Nat, k ≤ xs.length ∧ i = .int .i64 k ∧ Hid ((xs.take k).any p = false) ∧ Hid (Below w.heap.size w wr)) (fun i _ => xs.length - (intOf i).toNat)
  case atStart => exact ⟨0, by omega, rfl, Lib.hid rfl, Lib.hid (Below.refl _ _)⟩
  case round =>
    obtain ⟨k, hk, rfl, ht, hb⟩ := hrel
    rename_i wr _
    by_cases hlt : k < xs.length
    · obtain ⟨ad, A1, c1, rfl, e0, e1, m1, q1⟩ := at_TCus (Kd.C_below HX.out hb.out) (k : Int) (by omega) (by omega)
      rw [Int.toNat_natCast] at e0 e1
      have hkd := HP.out (rd_TCus xs k) _ wr hb.out (kCus_mk wr (rd_TCus xs k) m1 q1)
      have HK := Lib.hid hkd; clear hkd m1 q1
      cases hp : p (rd_TCus xs k) with
      | false =>
        rw [hp] at HK
        have HB := Lib.hid hp; clear hp
        go_wp2_with fail
        rw [HG.out, Oper.upon_enter]
        refine HK.out.mono ?_
        rintro e w' ⟨rfl, hb1⟩
        have hb2 := Lib.hid (hb.out.trans (hb1.mono hb.out.size)); clear hb1
        go_wp2_with fail
        go_roundw
        case rel => exact ⟨k + 1, by omega, by go_num, Lib.hid (take_noneS ht.out hlt zCus rfl HB.out), hb2⟩
        case measure => simp [intOf]; omega
      | true =>
        rw [hp] at HK
        have HB := Lib.hid hp; clear hp
        go_wp2_with fail
        rw [HG.out, Oper.upon_enter]
        refine HK.out.mono ?_
        rintro e w' ⟨rfl, hb1⟩
        have hb2 := Lib.hid (hb.out.trans (hb1.mono hb.out.size)); clear hb1
        go_wp2_with fail
        go_ret
        exact ⟨(k : Int), rfl, by rw [any_atS hlt zCus rfl HB.out]; simp, hb2.out⟩
    · go_wp2
      go_ret
      refine ⟨-1, rfl, ?_, hb.out⟩
      have : k = xs.length := by omega
      subst this
      have h := ht.out
      rw [List.take_of_length_le (Nat.le_refl _)] at h
      rw [h]
      rfl
set_option maxRecDepth 100000 in
theorem ContainsFuncC_Cus (G : Nat) (p : SCus → Bool) (cap : Option Addr) (w : World) (hG : ∀ cs w, Sem.run Tryz.prog (callFunc G #[.agg cs, .pointer cap]) w = .ok (.enter G #[.agg cs, .pointer cap]) w) (hp : ∀ x cs wr, Below w.heap.size w wr → kCus.K wr x cs → Calls Tryz.prog G #[.agg cs.toArray, .pointer cap] wr (BoolEnd (p x) wr)) (A : Option Addr) (cA : Nat) (xs : List SCus) (hx : kCus.C w A xs.length xs) :
    Calls Tryz.prog 122 #[.slice A xs.length cA, .func (.func G) #[] #[.pointer cap]] w (BoolEnd (xs.any p) w) := by
  have HC := Lib.hid (IndexFuncC_Cus G p cap w hG hp A cA xs hx)
  clear hx hp hG
  go_enter Tryz.func122, Tryz.ntmps122
  go_wp2_with fail
  refine HC.out.mono ?_
  rintro e w' ⟨r, rfl, hr, hb⟩
  have HR := Lib.hid hr; have HB := Lib.hid hb; clear hr hb
  go_wp2_with fail
  go_ret
  have hr := HR.out
  exact ⟨by rw [← hr]; rfl, HB.out⟩
end Go.Proofs.YthehihjcpiadgaaGreat
end
section
namespace Go.Proofs.YthehihjcpiadgaaGreat
open Go.RowKit Go.Proofs.YthehihjcpiadgaaGreatW.PrintWords
set_option linter.unusedSimpArgs false
set_option linter.unusedVariables false
set_option maxRecDepth 100000 in
set_option maxHeartbeats 1000000 in
theorem all1_Ty (F : Nat) (p : STy → Bool) (hG : ∀ cs w, Sem.run Tryz.prog (callFunc F #[.agg cs]) w = .ok (.enter F #[.agg cs]) w) (g : Nat) (wr : World) (hc : wr.cell? ⟨g, 0, none⟩ = some (.func (.func F) #[] #[])) (hg : g < wr.heap.size) (x : STy) (cs : List Value) (hx : kTy.K wr x cs) (hp : ∀ x cs w', Below wr.heap.size wr w' → kTy.K w' x cs → Calls Tryz.prog F #[.agg cs.toArray] w' (BoolEnd (p x) w')) :
    Calls Tryz.prog 118 #[.agg cs.toArray, .pointer (some ⟨g, 0, none⟩)] wr (BoolEnd (!p x) wr) := by
  obtain ⟨A0, c0, A1, c1, rfl, m0, q0, m1, q1⟩ := kTy_open hx
  have HG := Lib.hid hG; have HP := Lib.hid hp; clear hG hp hx
  go_enter Tryz.func118, Tryz.ntmps118
  go_wp2_with fail
  rw [HG.out, Oper.upon_enter]
  refine (HP.out x _ _ (by repeat (first | exact Below.refl _ _ | refine below_alloc ?_ _)) (kTy_mk _ x m0 (Kd.C_alloc q0 _) m1 (Kd.C_alloc q1 _))).mono ?_
  rintro e w' ⟨rfl, hb1⟩
  have HB := Lib.hid hb1; clear hb1
  go_wp2_with fail
  go_ret
  exact ⟨rfl, below_step (by repeat (first | exact Below.refl _ _ | refine below_alloc ?_ _)) HB.out⟩
set_option maxRecDepth 100000 in
set_option maxHeartbeats 1000000 in
theorem all_Ty (F : Nat) (p : STy → Bool) (w : World) (hG : ∀ cs w, Sem.run Tryz.prog (callFunc F #[.agg cs]) w = .ok (.enter F #[.agg cs]) w) (hp : ∀ x cs w', Below w.heap.size w w' → kTy.K w' x cs → Calls Tryz.prog F #[.agg cs.toArray] w' (BoolEnd (p x) w')) (A : Option Addr) (cA : Nat) (xs : List STy) (hx : kTy.C w A xs.length xs) :
    Calls Tryz.prog 62 #[.slice A xs.length cA, .func (.func F) #[] #[]] w (BoolEnd (xs.all p) w) := by
  have HG := Lib.hid hG; have HP := Lib.hid hp; have HX := Lib.hid hx; clear hG hp hx
  go_enter Tryz.func62, Tryz.ntmps62
  go_wp2_with fail
  go_at_call 117
  refine (ContainsFuncC_Ty 118 (fun x => !p x) _ _ (fun cs w => enters_of Tryz.func118 (by kernel_rfl) rfl _ w) (fun x cs wr hb hx => ?_) A cA xs (by repeat (first | exact HX.out | apply Kd.C_alloc))).mono ?_
  · exact all1_Ty F p HG.out _ wr (by have h := (bcell hb).1 w.heap.size 0 (by simp); rw [h]; simp [go_sem]) (by have := hb.size; simp at this; omega) x cs hx (fun x cs w' hb' hx => HP.out x cs w' (((below_alloc (Below.refl _ _) _).trans (hb.mono (by simp))).trans (hb'.mono (by have := hb.size; simp at this; omega))) hx)
  rintro e w' ⟨rfl, hb1⟩
  have HB := Lib.hid hb1; clear hb1
  go_wp2_with fail
  go_ret
  exact ⟨by rw [List.all_eq_not_any_not]; rfl, below_step (below_alloc (Below.refl _ _) _) HB.out⟩
set_option maxRecDepth 100000 in
set_option maxHeartbeats 1000000 in
theorem all1_Imp (F : Nat) (p : SImp → Bool) (hG : ∀ cs w, Sem.run Tryz.prog (callFunc F #[.agg cs]) w = .ok (.enter F #[.agg cs]) w) (g : Nat) (wr : World) (hc : wr.cell? ⟨g, 0, none⟩ = some (.func (.func F) #[] #[])) (hg : g < wr.heap.size) (x : SImp) (cs : List Value) (hx : kImp.K wr x cs) (hp : ∀ x cs w', Below wr.heap.size wr w' → kImp.K w' x cs → Calls Tryz.prog F #[.agg cs.toArray] w' (BoolEnd (p x) w')) :
    Calls Tryz.prog 120 #[.agg cs.toArray, .pointer (some ⟨g, 0, none⟩)] wr (BoolEnd (!p x) wr) := by
  obtain rfl := kImp_open hx
  have HG := Lib.hid hG; have HP := Lib.hid hp; clear hG hp hx
  go_enter Tryz.func120, Tryz.ntmps120
  go_wp2_with fail
  rw [HG.out, Oper.upon_enter]
  refine (HP.out x _ _ (by repeat (first | exact Below.refl _ _ | refine below_alloc ?_ _)) (kImp_mk _ x)).mono ?_
  rintro e w' ⟨rfl, hb1⟩
  have HB := Lib.hid hb1; clear hb1
  go_wp2_with fail
  go_ret
  exact ⟨rfl, below_step (by repeat (first | exact Below.refl _ _ | refine below_alloc ?_ _)) HB.out⟩
set_option maxRecDepth 100000 in
set_option maxHeartbeats 1000000 in
theorem all_Imp (F : Nat) (p : SImp → Bool) (w : World) (hG : ∀ cs w, Sem.run Tryz.prog (callFunc F #[.agg cs]) w = .ok (.enter F #[.agg cs]) w) (hp : ∀ x cs w', Below w.heap.size w w' → kImp.K w' x cs → Calls Tryz.prog F #[.agg cs.toArray] w' (BoolEnd (p x) w')) (A : Option Addr) (cA : Nat) (xs : List SImp) (hx : kImp.C w A xs.length xs) :
    Calls Tryz.prog 64 #[.slice A xs.length cA, .func (.func F) #[] #[]] w (BoolEnd (xs.all p) w) := by
  have HG := Lib.hid hG; have HP := Lib.hid hp; have HX := Lib.hid hx; clear hG hp hx
  go_enter Tryz.func64, Tryz.ntmps64
  go_wp2_with fail
  go_at_call 119
  refine (ContainsFuncC_Imp 120 (fun x => !p x) _ _ (fun cs w => enters_of Tryz.func120 (by kernel_rfl) rfl _ w) (fun x cs wr hb hx => ?_) A cA xs (by repeat (first | exact HX.out | apply Kd.C_alloc))).mono ?_
  · exact all1_Imp F p HG.out _ wr (by have h := (bcell hb).1 w.heap.size 0 (by simp); rw [h]; simp [go_sem]) (by have := hb.size; simp at this; omega) x cs hx (fun x cs w' hb' hx => HP.out x cs w' (((below_alloc (Below.refl _ _) _).trans (hb.mono (by simp))).trans (hb'.mono (by have := hb.size; simp at this; omega))) hx)
  rintro e w' ⟨rfl, hb1⟩
  have HB := Lib.hid hb1; clear hb1
  go_wp2_with fail
  go_ret
  exact ⟨by rw [List.all_eq_not_any_not]; rfl, below_step (below_alloc (Below.refl _ _) _) HB.out⟩
set_option maxRecDepth 100000 in
set_option maxHeartbeats 1000000 in
theorem all1_Fun (F : Nat) (p : SFun → Bool) (hG : ∀ cs w, Sem.run Tryz.prog (callFunc F #[.agg cs]) w = .ok (.enter F #[.agg cs]) w) (g : Nat) (wr : World) (hc : wr.cell? ⟨g, 0, none⟩ = some (.func (.func F) #[] #[])) (hg : g < wr.heap.size) (x : SFun) (cs : List Value) (hx : kFun.K wr x cs) (hp : ∀ x cs w', Below wr.heap.size wr w' → kFun.K w' x cs → Calls Tryz.prog F #[.agg cs.toArray] w' (BoolEnd (p x) w')) :
    Calls Tryz.prog 125 #[.agg cs.toArray, .pointer (some ⟨g, 0, none⟩)] wr (BoolEnd (!p x) wr) := by
  obtain ⟨A1, c1, A2, c2, rfl, m1, q1, m2, q2⟩ := kFun_open hx
  have HG := Lib.hid hG; have HP := Lib.hid hp; clear hG hp hx
  go_enter Tryz.func125, Tryz.ntmps125
  go_wp2_with fail
  rw [HG.out, Oper.upon_enter]
  refine (HP.out x _ _ (by repeat (first | exact Below.refl _ _ | refine below_alloc ?_ _)) (kFun_mk _ x m1 (Kd.C_alloc q1 _) m2 (Kd.C_alloc q2 _))).mono ?_
  rintro e w' ⟨rfl, hb1⟩
  have HB := Lib.hid hb1; clear hb1
  go_wp2_with fail
  go_ret
  exact ⟨rfl, below_step (by repeat (first | exact Below.refl _ _ | refine below_alloc ?_ _)) HB.out⟩
set_option maxRecDepth 100000 in
set_option maxHeartbeats 1000000 in
theorem all_Fun (F : Nat) (p : SFun → Bool) (w : World) (hG : ∀ cs w, Sem.run Tryz.prog (callFunc F #[.agg cs]) w = .ok (.enter F #[.agg cs]) w) (hp : ∀ x cs w', Below w.heap.size w w' → kFun.K w' x cs → Calls Tryz.prog F #[.agg cs.toArray] w' (BoolEnd (p x) w')) (A : Option Addr) (cA : Nat) (xs : List SFun) (hx : kFun.C w A xs.length xs) :
    Calls Tryz.prog 71 #[.slice A xs.length cA, .func (.func F) #[] #[]] w (BoolEnd (xs.all p) w) := by
  have HG := Lib.hid hG; have HP := Lib.hid hp; have HX := Lib.hid hx; clear hG hp hx
  go_enter Tryz.func71, Tryz.ntmps71
  go_wp2_with fail
  go_at_call 124
  refine (ContainsFuncC_Fun 125 (fun x => !p x) _ _ (fun cs w => enters_of Tryz.func125 (by kernel_rfl) rfl _ w) (fun x cs wr hb hx => ?_) A cA xs (by repeat (first | exact HX.out | apply Kd.C_alloc))).mono ?_
  · exact all1_Fun F p HG.out _ wr (by have h := (bcell hb).1 w.heap.size 0 (by simp); rw [h]; simp [go_sem]) (by have := hb.size; simp at this; omega) x cs hx (fun x cs w' hb' hx => HP.out x cs w' (((below_alloc (Below.refl _ _) _).trans (hb.mono (by simp))).trans (hb'.mono (by have := hb.size; simp at this; omega))) hx)
  rintro e w' ⟨rfl, hb1⟩
  have HB := Lib.hid hb1; clear hb1
  go_wp2_with fail
  go_ret
  exact ⟨by rw [List.all_eq_not_any_not]; rfl, below_step (below_alloc (Below.refl _ _) _) HB.out⟩
set_option maxRecDepth 100000 in
set_option maxHeartbeats 1000000 in
theorem all1_Mem (F : Nat) (p : SMem → Bool) (hG : ∀ cs w, Sem.run Tryz.prog (callFunc F #[.agg cs]) w = .ok (.enter F #[.agg cs]) w) (g : Nat) (wr : World) (hc : wr.cell? ⟨g, 0, none⟩ = some (.func (.func F) #[] #[])) (hg : g < wr.heap.size) (x : SMem) (cs : List Value) (hx : kMem.K wr x cs) (hp : ∀ x cs w', Below wr.heap.size wr w' → kMem.K w' x cs → Calls Tryz.prog F #[.agg cs.toArray] w' (BoolEnd (p x) w')) :
    Calls Tryz.prog 130 #[.agg cs.toArray, .pointer (some ⟨g, 0, none⟩)] wr (BoolEnd (!p x) wr) := by
  obtain rfl := kMem_open hx
  have HG := Lib.hid hG; have HP := Lib.hid hp; clear hG hp hx
  go_enter Tryz.func130, Tryz.ntmps130
  go_wp2_with fail
  rw [HG.out, Oper.upon_enter]
  refine (HP.out x _ _ (by repeat (first | exact Below.refl _ _ | refine below_alloc ?_ _)) (kMem_mk _ x)).mono ?_
  rintro e w' ⟨rfl, hb1⟩
  have HB := Lib.hid hb1; clear hb1
  go_wp2_with fail
  go_ret
  exact ⟨rfl, below_step (by repeat (first | exact Below.refl _ _ | refine below_alloc ?_ _)) HB.out⟩
set_option maxRecDepth 100000 in
set_option maxHeartbeats 1000000 in
theorem all_Mem (F : Nat) (p : SMem → Bool) (w : World) (hG : ∀ cs w, Sem.run Tryz.prog (callFunc F #[.agg cs]) w = .ok (.enter F #[.agg cs]) w) (hp : ∀ x cs w', Below w.heap.size w w' → kMem.K w' x cs → Calls Tryz.prog F #[.agg cs.toArray] w' (BoolEnd (p x) w')) (A : Option Addr) (cA : Nat) (xs : List SMem) (hx : kMem.C w A xs.length xs) :
    Calls Tryz.prog 73 #[.slice A xs.length cA, .func (.func F) #[] #[]] w (BoolEnd (xs.all p) w) := by
  have HG := Lib.hid hG; have HP := Lib.hid hp; have HX := Lib.hid hx; clear hG hp hx
  go_enter Tryz.func73, Tryz.ntmps73
  go_wp2_with fail
  go_at_call 129
  refine (ContainsFuncC_Mem 130 (fun x => !p x) _ _ (fun cs w => enters_of Tryz.func130 (by kernel_rfl) rfl _ w) (fun x cs wr hb hx => ?_) A cA xs (by repeat (first | exact HX.out | apply Kd.C_alloc))).mono ?_
  · exact all1_Mem F p HG.out _ wr (by have h := (bcell hb).1 w.heap.size 0 (by simp); rw [h]; simp [go_sem]) (by have := hb.size; simp at this; omega) x cs hx (fun x cs w' hb' hx => HP.out x cs w' (((below_alloc (Below.refl _ _) _).trans (hb.mono (by simp))).trans (hb'.mono (by have := hb.size; simp at this; omega))) hx)
  rintro e w' ⟨rfl, hb1⟩
  have HB := Lib.hid hb1; clear hb1
  go_wp2_with fail
  go_ret
  exact ⟨by rw [List.all_eq_not_any_not]; rfl, below_step (below_alloc (Below.refl _ _) _) HB.out⟩
set_option maxRecDepth 100000 in
set_option maxHeartbeats 1000000 in
theorem all1_Glob (F : Nat) (p : SGlob → Bool) (hG : ∀ cs w, Sem.run Tryz.prog (callFunc F #[.agg cs]) w = .ok (.enter F #[.agg cs]) w) (g : Nat) (wr : World) (hc : wr.cell? ⟨g, 0, none⟩ = some (.func (.func F) #[] #[])) (hg : g < wr.heap.size) (x : SGlob) (cs : List Value) (hx : kGlob.K wr x cs) (hp : ∀ x cs w', Below wr.heap.size wr w' → kGlob.K w' x cs → Calls Tryz.prog F #[.agg cs.toArray] w' (BoolEnd (p x) w')) :
    Calls Tryz.prog 132 #[.agg cs.toArray, .pointer (some ⟨g, 0, none⟩)] wr (BoolEnd (!p x) wr) := by
  obtain rfl := kGlob_open hx
  have HG := Lib.hid hG; have HP := Lib.hid hp; clear hG hp hx
  go_enter Tryz.func132, Tryz.ntmps132
  go_wp2_with fail
  rw [HG.out, Oper.upon_enter]
  refine (HP.out x _ _ (by repeat (first | exact Below.refl _ _ | refine below_alloc ?_ _)) (kGlob_mk _ x)).mono ?_
  rintro e w' ⟨rfl, hb1⟩
  have HB := Lib.hid hb1; clear hb1
  go_wp2_with fail
  go_ret
  exact ⟨rfl, below_step (by repeat (first | exact Below.refl _ _ | refine below_alloc ?_ _)) HB.out⟩
set_option maxRecDepth 100000 in
set_option maxHeartbeats 1000000 in
theorem all_Glob (F : Nat) (p : SGlob → Bool) (w : World) (hG : ∀ cs w, Sem.run Tryz.prog (callFunc F #[.agg cs]) w = .ok (.enter F #[.agg cs]) w) (hp : ∀ x cs w', Below w.heap.size w w' → kGlob.K w' x cs → Calls Tryz.prog F #[.agg cs.toArray] w' (BoolEnd (p x) w')) (A : Option Addr) (cA : Nat) (xs : List SGlob) (hx : kGlob.C w A xs.length xs) :
    Calls Tryz.prog 75 #[.slice A xs.length cA, .func (.func F) #[] #[]] w (BoolEnd (xs.all p) w) := by
  have HG := Lib.hid hG; have HP := Lib.hid hp; have HX := Lib.hid hx; clear hG hp hx
  go_enter Tryz.func75, Tryz.ntmps75
  go_wp2_with fail
  go_at_call 131
  refine (ContainsFuncC_Glob 132 (fun x => !p x) _ _ (fun cs w => enters_of Tryz.func132 (by kernel_rfl) rfl _ w) (fun x cs wr hb hx => ?_) A cA xs (by repeat (first | exact HX.out | apply Kd.C_alloc))).mono ?_
  · exact all1_Glob F p HG.out _ wr (by have h := (bcell hb).1 w.heap.size 0 (by simp); rw [h]; simp [go_sem]) (by have := hb.size; simp at this; omega) x cs hx (fun x cs w' hb' hx => HP.out x cs w' (((below_alloc (Below.refl _ _) _).trans (hb.mono (by simp))).trans (hb'.mono (by have := hb.size; simp at this; omega))) hx)
  rintro e w' ⟨rfl, hb1⟩
  have HB := Lib.hid hb1; clear hb1
  go_wp2_with fail
  go_ret
  exact ⟨by rw [List.all_eq_not_any_not]; rfl, below_step (below_alloc (Below.refl _ _) _) HB.out⟩
set_option maxRecDepth 100000 in
set_option maxHeartbeats 1000000 in
theorem all1_Data (F : Nat) (p : SData → Bool) (hG : ∀ cs w, Sem.run Tryz.prog (callFunc F #[.agg cs]) w = .ok (.enter F #[.agg cs]) w) (g : Nat) (wr : World) (hc : wr.cell? ⟨g, 0, none⟩ = some (.func (.func F) #[] #[])) (hg : g < wr.heap.size) (x : SData) (cs : List Value) (hx : kData.K wr x cs) (hp : ∀ x cs w', Below wr.heap.size wr w' → kData.K w' x cs → Calls Tryz.prog F #[.agg cs.toArray] w' (BoolEnd (p x) w')) :
    Calls Tryz.prog 136 #[.agg cs.toArray, .pointer (some ⟨g, 0, none⟩)] wr (BoolEnd (!p x) wr) := by
  obtain ⟨A3, c3, rfl, m3, q3⟩ := kData_open hx
  have HG := Lib.hid hG; have HP := Lib.hid hp; clear hG hp hx
  go_enter Tryz.func136, Tryz.ntmps136
  go_wp2_with fail
  rw [HG.out, Oper.upon_enter]
  refine (HP.out x _ _ (by repeat (first | exact Below.refl _ _ | refine below_alloc ?_ _)) (kData_mk _ x m3 (Kd.C_alloc q3 _))).mono ?_
  rintro e w' ⟨rfl, hb1⟩
  have HB := Lib.hid hb1; clear hb1
  go_wp2_with fail
  go_ret
  exact ⟨rfl, below_step (by repeat (first | exact Below.refl _ _ | refine below_alloc ?_ _)) HB.out⟩
set_option maxRecDepth 100000 in
set_option maxHeartbeats 1000000 in
theorem all_Data (F : Nat) (p : SData → Bool) (w : World) (hG : ∀ cs w, Sem.run Tryz.prog (callFunc F #[.agg cs]) w = .ok (.enter F #[.agg cs]) w) (hp : ∀ x cs w', Below w.heap.size w w' → kData.K w' x cs → Calls Tryz.prog F #[.agg cs.toArray] w' (BoolEnd (p x) w')) (A : Option Addr) (cA : Nat) (xs : List SData) (hx : kData.C w A xs.length xs) :
    Calls Tryz.prog 78 #[.slice A xs.length cA, .func (.func F) #[] #[]] w (BoolEnd (xs.all p) w) := by
  have HG := Lib.hid hG; have HP := Lib.hid hp; have HX := Lib.hid hx; clear hG hp hx
  go_enter Tryz.func78, Tryz.ntmps78
  go_wp2_with fail
  go_at_call 135
  refine (ContainsFuncC_Data 136 (fun x => !p x) _ _ (fun cs w => enters_of Tryz.func136 (by kernel_rfl) rfl _ w) (fun x cs wr hb hx => ?_) A cA xs (by repeat (first | exact HX.out | apply Kd.C_alloc))).mono ?_
  · exact all1_Data F p HG.out _ wr (by have h := (bcell hb).1 w.heap.size 0 (by simp); rw [h]; simp [go_sem]) (by have := hb.size; simp at this; omega) x cs hx (fun x cs w' hb' hx => HP.out x cs w' (((below_alloc (Below.refl _ _) _).trans (hb.mono (by simp))).trans (hb'.mono (by have := hb.size; simp at this; omega))) hx)
  rintro e w' ⟨rfl, hb1⟩
  have HB := Lib.hid hb1; clear hb1
  go_wp2_with fail
  go_ret
  exact ⟨by rw [List.all_eq_not_any_not]; rfl, below_step (below_alloc (Below.refl _ _) _) HB.out⟩
set_option maxRecDepth 100000 in
set_option maxHeartbeats 1000000 in
theorem all1_Cus (F : Nat) (p : SCus → Bool) (hG : ∀ cs w, Sem.run Tryz.prog (callFunc F #[.agg cs]) w = .ok (.enter F #[.agg cs]) w) (g : Nat) (wr : World) (hc : wr.cell? ⟨g, 0, none⟩ = some (.func (.func F) #[] #[])) (hg : g < wr.heap.size) (x : SCus) (cs : List Value) (hx : kCus.K wr x cs) (hp : ∀ x cs w', Below wr.heap.size wr w' → kCus.K w' x cs → Calls Tryz.prog F #[.agg cs.toArray] w' (BoolEnd (p x) w')) :
    Calls Tryz.prog 123 #[.agg cs.toArray, .pointer (some ⟨g, 0, none⟩)] wr (BoolEnd (!p x) wr) := by
  obtain ⟨A1, c1, rfl, m1, q1⟩ := kCus_open hx
  have HG := Lib.hid hG; have HP := Lib.hid hp; clear hG hp hx
  go_enter Tryz.func123, Tryz.ntmps123
  go_wp2_with fail
  rw [HG.out, Oper.upon_enter]
  refine (HP.out x _ _ (by repeat (first | exact Below.refl _ _ | refine below_alloc ?_ _)) (kCus_mk _ x m1 (Kd.C_alloc q1 _))).mono ?_
  rintro e w' ⟨rfl, hb1⟩
  have HB := Lib.hid hb1; clear hb1
  go_wp2_with fail
  go_ret
  exact ⟨rfl, below_step (by repeat (first | exact Below.refl _ _ | refine below_alloc ?_ _)) HB.out⟩
set_option maxRecDepth 100000 in
set_option maxHeartbeats 1000000 in
theorem all_Cus (F : Nat) (p : SCus → Bool) (w : World) (hG : ∀ cs w, Sem.run Tryz.prog (callFunc F #[.agg cs]) w = .ok (.enter F #[.agg cs]) w) (hp : ∀ x cs w', Below w.heap.size w w' → kCus.K w' x cs → Calls Tryz.prog F #[.agg cs.toArray] w' (BoolEnd (p x) w')) (A : Option Addr) (cA : Nat) (xs : List SCus) (hx : kCus.C w A xs.length xs) :
    Calls Tryz.prog 69 #[.slice A xs.length cA, .func (.func F) #[] #[]] w (BoolEnd (xs.all p) w) := by
  have HG := Lib.hid hG; have HP := Lib.hid hp; have HX := Lib.hid hx; clear hG hp hx
  go_enter Tryz.func69, Tryz.ntmps69
  go_wp2_with fail
  go_at_call 122
  refine (ContainsFuncC_Cus 123 (fun x => !p x) _ _ (fun cs w => enters_of Tryz.func123 (by kernel_rfl) rfl _ w) (fun x cs wr hb hx => ?_) A cA xs (by repeat (first | exact HX.out | apply Kd.C_alloc))).mono ?_
  · exact all1_Cus F p HG.out _ wr (by have h := (bcell hb).1 w.heap.size 0 (by simp); rw [h]; simp [go_sem]) (by have := hb.size; simp at this; omega) x cs hx (fun x cs w' hb' hx => HP.out x cs w' (((below_alloc (Below.refl _ _) _).trans (hb.mono (by simp))).trans (hb'.mono (by have := hb.size; simp at this; omega))) hx)
  rintro e w' ⟨rfl, hb1⟩
  have HB := Lib.hid hb1; clear hb1
  go_wp2_with fail
  go_ret
  exact ⟨by rw [List.all_eq_not_any_not]; rfl, below_step (below_alloc (Below.refl _ _) _) HB.out⟩
end Go.Proofs.YthehihjcpiadgaaGreat
end
section
namespace Go.Proofs.YthehihjcpiadgaaGreat
open Go.RowKit Go.Proofs.YthehihjcpiadgaaGreatW.PrintWords
set_option linter.unusedSimpArgs false
set_option linter.unusedVariables false
set_option maxHeartbeats 2000000 in
theorem module_typed (A B : Option Addr) (c d : Nat) (xs ys : List Int) (w : World) (hx : IntsC w A xs) (hy : IntsC w B ys) :
    Calls Tryz.prog 63 #[.agg #[.slice A xs.length c, .slice B ys.length d]] w (BoolEnd (Sp.typed ⟨xs, ys⟩) w) := by
  have HX := Lib.hid hx; have HY := Lib.hid hy; clear hx hy
  unfold Sp.typed
  dsimp only
  by_cases h1 : xs.length ≤ 8
  · have h1' : decide ((xs.length : Int) ≤ 8) = true := by simp; omega
    rw [decide_eq_true h1, Bool.true_and]
    by_cases h2 : ys.length ≤ 8
    · have h2' : decide ((ys.length : Int) ≤ 8) = true := by simp; omega
      rw [decide_eq_true h2, Bool.true_and]
      cases t1 : Sp.types xs with
      | true =>
        have T1 := Lib.hid (fun w h => (show Calls Tryz.prog 77 #[.slice A xs.length c] w fun e w' => e = .returned (.bool true) ∧ w = w' from t1 ▸ module_types A c xs w h))
        have T2 := Lib.hid (fun w h => (show Calls Tryz.prog 77 #[.slice B ys.length d] w fun e w' => e = .returned (.bool (Sp.types ys)) ∧ w = w' from module_types B d ys w h))
        clear t1
        go_enter Tryz.func63, Tryz.ntmps63
        go_wp2_with (first | (go_at_call 77; with_reducible refine (T1.out _ ?hc).mono ?_; (case hc => (with_reducible repeat (first | exact HX.out | exact HY.out | apply Kd.C_alloc | apply Kd.C_drew | apply Kd.C_drewN))); rintro e w' ⟨rfl, rfl⟩) | (go_at_call 77; with_reducible refine (T2.out _ ?hc).mono ?_; (case hc => (with_reducible repeat (first | exact HX.out | exact HY.out | apply Kd.C_alloc | apply Kd.C_drew | apply Kd.C_drewN))); rintro e w' ⟨rfl, rfl⟩))
        go_ret
        exact ⟨rfl, by repeat (first | exact Below.refl _ _ | refine below_alloc ?_ _)⟩
      | false =>
        have T1 := Lib.hid (fun w h => (show Calls Tryz.prog 77 #[.slice A xs.length c] w fun e w' => e = .returned (.bool false) ∧ w = w' from t1 ▸ module_types A c xs w h))
        clear t1
        go_enter Tryz.func63, Tryz.ntmps63
        go_wp2_with (first | (go_at_call 77; with_reducible refine (T1.out _ ?hc).mono ?_; (case hc => (with_reducible repeat (first | exact HX.out | exact HY.out | apply Kd.C_alloc | apply Kd.C_drew | apply Kd.C_drewN))); rintro e w' ⟨rfl, rfl⟩))
        go_ret
        exact ⟨rfl, by repeat (first | exact Below.refl _ _ | refine below_alloc ?_ _)⟩
    · have h2' : decide ((ys.length : Int) ≤ 8) = false := by simp; omega
      rw [decide_eq_false h2, Bool.false_and]
      go_enter Tryz.func63, Tryz.ntmps63
      go_wp2
      go_ret
      exact ⟨rfl, by repeat (first | exact Below.refl _ _ | refine below_alloc ?_ _)⟩
  · have h1' : decide ((xs.length : Int) ≤ 8) = false := by simp; omega
    rw [decide_eq_false h1, Bool.false_and]
    go_enter Tryz.func63, Tryz.ntmps63
    go_wp2
    go_ret
    exact ⟨rfl, by repeat (first | exact Below.refl _ _ | refine below_alloc ?_ _)⟩
end Go.Proofs.YthehihjcpiadgaaGreat
end
section
namespace Go.Proofs.YthehihjcpiadgaaGreat
open Go.RowKit Go.Proofs.YthehihjcpiadgaaGreatW.PrintWords
set_option linter.unusedSimpArgs false
set_option linter.unusedVariables false
theorem C_one_int (w : World) (g : Nat) (x : Int) (h : w.cell? ⟨g, 0, none⟩ = some (.int .i64 x)) : IntsC w (some ⟨g, 0, none⟩) [x] := by
  refine Kd.C_of_reads (h1 := fun _ => rfl) (d := (0 : Int)) (enc := Value.int .i64) ⟨rfl, by simp, fun _ => ⟨_, rfl, fun j hj => ?_⟩⟩
  obtain rfl : j = 0 := by simp at hj; omega
  rw [add_plain]; exact h
set_option maxHeartbeats 2000000 in
theorem module_Right1 (x : SImp) (w : World) : Calls Tryz.prog 65 #[.agg #[.string x.f0, .string x.f1, .int .i64 x.f2]] w (BoolEnd (Sp.imported x) w) := by
  unfold Sp.imported
  cases tN1 : Sp.name x.f0 with
  | false =>
    have N1 := Lib.hid (fun w => (show Calls Tryz.prog 66 #[.string x.f0] w (BoolEnd false w) from tN1 ▸ module_name x.f0 w))
    clear tN1
    go_enter Tryz.func65, Tryz.ntmps65
    go_wp2_with (first | ((go_at_call 66); (with_reducible refine (N1.out _).mono ?_); rintro e w1 ⟨rfl, hb1⟩; obtain ⟨hbca, hbcb⟩ := bcell hb1; have z1 : w.heap.size < w1.heap.size := (by have := hb1.size; first | omega | (simp at this; omega)); have c10 : w1.cell? ⟨w.heap.size, 0, none⟩ = some (.string x.f0) := (hbca _ _ (by first | (simp; done) | (simp; omega) | omega)).trans (by first | (simp [go_sem]; done) | assumption); have c11 : w1.cell? ⟨w.heap.size, 1, none⟩ = some (.string x.f1) := (hbca _ _ (by first | (simp; done) | (simp; omega) | omega)).trans (by first | (simp [go_sem]; done) | assumption); have c12 : w1.cell? ⟨w.heap.size, 2, none⟩ = some (.int .i64 x.f2) := (hbca _ _ (by first | (simp; done) | (simp; omega) | omega)).trans (by first | (simp [go_sem]; done) | assumption); have HB1 := Lib.hid hb1; clear hb1 hbca hbcb))
    go_ret
    exact ⟨rfl, below_step (below_alloc (Below.refl _ _) _) HB1.out⟩
  | true =>
    cases tN2 : Sp.name x.f1 with
    | false =>
      have N1 := Lib.hid (fun w => (show Calls Tryz.prog 66 #[.string x.f0] w (BoolEnd true w) from tN1 ▸ module_name x.f0 w))
      have N2 := Lib.hid (fun w => (show Calls Tryz.prog 66 #[.string x.f1] w (BoolEnd false w) from tN2 ▸ module_name x.f1 w))
      clear tN1 tN2
      go_enter Tryz.func65, Tryz.ntmps65
      go_wp2_with (first | ((go_at_call 66); (with_reducible refine (N1.out _).mono ?_); rintro e w1 ⟨rfl, hb1⟩; obtain ⟨hbca, hbcb⟩ := bcell hb1; have z1 : w.heap.size < w1.heap.size := (by have := hb1.size; first | omega | (simp at this; omega)); have c10 : w1.cell? ⟨w.heap.size, 0, none⟩ = some (.string x.f0) := (hbca _ _ (by first | (simp; done) | (simp; omega) | omega)).trans (by first | (simp [go_sem]; done) | assumption); have c11 : w1.cell? ⟨w.heap.size, 1, none⟩ = some (.string x.f1) := (hbca _ _ (by first | (simp; done) | (simp; omega) | omega)).trans (by first | (simp [go_sem]; done) | assumption); have c12 : w1.cell? ⟨w.heap.size, 2, none⟩ = some (.int .i64 x.f2) := (hbca _ _ (by first | (simp; done) | (simp; omega) | omega)).trans (by first | (simp [go_sem]; done) | assumption); have HB1 := Lib.hid hb1; clear hb1 hbca hbcb) | ((go_at_call 66); (with_reducible refine (N2.out _).mono ?_); rintro e w2 ⟨rfl, hb2⟩; obtain ⟨hbca, hbcb⟩ := bcell hb2; have z2 : w.heap.size < w2.heap.size := (by have := hb2.size; first | omega | (simp at this; omega)); have c20 : w2.cell? ⟨w.heap.size, 0, none⟩ = some (.string x.f0) := (hbca _ _ (by first | (simp; done) | (simp; omega) | omega)).trans (by first | (simp [go_sem]; done) | assumption); have c21 : w2.cell? ⟨w.heap.size, 1, none⟩ = some (.string x.f1) := (hbca _ _ (by first | (simp; done) | (simp; omega) | omega)).trans (by first | (simp [go_sem]; done) | assumption); have c22 : w2.cell? ⟨w.heap.size, 2, none⟩ = some (.int .i64 x.f2) := (hbca _ _ (by first | (simp; done) | (simp; omega) | omega)).trans (by first | (simp [go_sem]; done) | assumption); have HB2 := Lib.hid hb2; clear hb2 hbca hbcb))
      go_ret
      exact ⟨rfl, below_step (below_step (below_alloc (Below.refl _ _) _) HB1.out) HB2.out⟩
    | true =>
      have N1 := Lib.hid (fun w => (show Calls Tryz.prog 66 #[.string x.f0] w (BoolEnd true w) from tN1 ▸ module_name x.f0 w))
      have N2 := Lib.hid (fun w => (show Calls Tryz.prog 66 #[.string x.f1] w (BoolEnd true w) from tN2 ▸ module_name x.f1 w))
      have N3 := Lib.hid (fun w => (show Calls Tryz.prog 67 #[.int .i64 x.f2] w (fun e w' => e = .returned (.bool (Sp.index x.f2)) ∧ w = w') from module_index x.f2 w))
      clear tN1 tN2
      go_enter Tryz.func65, Tryz.ntmps65
      go_wp2_with (first | ((go_at_call 66); (with_reducible refine (N1.out _).mono ?_); rintro e w1 ⟨rfl, hb1⟩; obtain ⟨hbca, hbcb⟩ := bcell hb1; have z1 : w.heap.size < w1.heap.size := (by have := hb1.size; first | omega | (simp at this; omega)); have c10 : w1.cell? ⟨w.heap.size, 0, none⟩ = some (.string x.f0) := (hbca _ _ (by first | (simp; done) | (simp; omega) | omega)).trans (by first | (simp [go_sem]; done) | assumption); have c11 : w1.cell? ⟨w.heap.size, 1, none⟩ = some (.string x.f1) := (hbca _ _ (by first | (simp; done) | (simp; omega) | omega)).trans (by first | (simp [go_sem]; done) | assumption); have c12 : w1.cell? ⟨w.heap.size, 2, none⟩ = some (.int .i64 x.f2) := (hbca _ _ (by first | (simp; done) | (simp; omega) | omega)).trans (by first | (simp [go_sem]; done) | assumption); have HB1 := Lib.hid hb1; clear hb1 hbca hbcb) | ((go_at_call 66); (with_reducible refine (N2.out _).mono ?_); rintro e w2 ⟨rfl, hb2⟩; obtain ⟨hbca, hbcb⟩ := bcell hb2; have z2 : w.heap.size < w2.heap.size := (by have := hb2.size; first | omega | (simp at this; omega)); have c20 : w2.cell? ⟨w.heap.size, 0, none⟩ = some (.string x.f0) := (hbca _ _ (by first | (simp; done) | (simp; omega) | omega)).trans (by first | (simp [go_sem]; done) | assumption); have c21 : w2.cell? ⟨w.heap.size, 1, none⟩ = some (.string x.f1) := (hbca _ _ (by first | (simp; done) | (simp; omega) | omega)).trans (by first | (simp [go_sem]; done) | assumption); have c22 : w2.cell? ⟨w.heap.size, 2, none⟩ = some (.int .i64 x.f2) := (hbca _ _ (by first | (simp; done) | (simp; omega) | omega)).trans (by first | (simp [go_sem]; done) | assumption); have HB2 := Lib.hid hb2; clear hb2 hbca hbcb) | ((go_at_call 67); (with_reducible refine (N3.out _).mono ?_); rintro e w' ⟨rfl, rfl⟩))
      go_ret
      exact ⟨rfl, below_step (below_step (below_alloc (Below.refl _ _) _) HB1.out) HB2.out⟩
set_option maxHeartbeats 2000000 in
theorem module_Right2 (x : SCus) (A : Option Addr) (c : Nat) (w : World) : Calls Tryz.prog 70 #[.agg #[.string x.f0, .slice A x.f1.length c]] w (BoolEnd (Sp.custom x) w) := by
  unfold Sp.custom
  cases tN1 : Sp.name x.f0 with
  | false =>
    have N1 := Lib.hid (fun w => (show Calls Tryz.prog 66 #[.string x.f0] w (BoolEnd false w) from tN1 ▸ module_name x.f0 w))
    clear tN1
    go_enter Tryz.func70, Tryz.ntmps70
    go_wp2_with (first | ((go_at_call 66); (with_reducible refine (N1.out _).mono ?_); rintro e w1 ⟨rfl, hb1⟩; obtain ⟨hbca, hbcb⟩ := bcell hb1; have z1 : w.heap.size < w1.heap.size := (by have := hb1.size; first | omega | (simp at this; omega)); have c10 : w1.cell? ⟨w.heap.size, 0, none⟩ = some (.string x.f0) := (hbca _ _ (by first | (simp; done) | (simp; omega) | omega)).trans (by first | (simp [go_sem]; done) | assumption); have c11 : w1.cell? ⟨w.heap.size, 1, none⟩ = some (.slice A x.f1.length c) := (hbca _ _ (by first | (simp; done) | (simp; omega) | omega)).trans (by first | (simp [go_sem]; done) | assumption); have HB1 := Lib.hid hb1; clear hb1 hbca hbcb))
    go_ret
    exact ⟨rfl, below_step (below_alloc (Below.refl _ _) _) HB1.out⟩
  | true =>
    have N1 := Lib.hid (fun w => (show Calls Tryz.prog 66 #[.string x.f0] w (BoolEnd true w) from tN1 ▸ module_name x.f0 w))
    clear tN1
    go_enter Tryz.func70, Tryz.ntmps70
    go_wp2_with (first | ((go_at_call 66); (with_reducible refine (N1.out _).mono ?_); rintro e w1 ⟨rfl, hb1⟩; obtain ⟨hbca, hbcb⟩ := bcell hb1; have z1 : w.heap.size < w1.heap.size := (by have := hb1.size; first | omega | (simp at this; omega)); have c10 : w1.cell? ⟨w.heap.size, 0, none⟩ = some (.string x.f0) := (hbca _ _ (by first | (simp; done) | (simp; omega) | omega)).trans (by first | (simp [go_sem]; done) | assumption); have c11 : w1.cell? ⟨w.heap.size, 1, none⟩ = some (.slice A x.f1.length c) := (hbca _ _ (by first | (simp; done) | (simp; omega) | omega)).trans (by first | (simp [go_sem]; done) | assumption); have HB1 := Lib.hid hb1; clear hb1 hbca hbcb))
    go_ret
    refine ⟨congrArg (fun b => Ending.returned (.bool b)) ?_, below_step (below_alloc (Below.refl _ _) _) HB1.out⟩
    first | rfl | (rw [Bool.eq_iff_iff]; simp; done) | (rw [Bool.eq_iff_iff]; simp; omega)
set_option maxHeartbeats 2000000 in
theorem module_Right3 (x : SMem) (w : World) : Calls Tryz.prog 74 #[.agg #[.int .i64 x.f0, .int .i64 x.f1]] w (BoolEnd (Sp.memory x) w) := by
  unfold Sp.memory
  by_cases h1 : 0 ≤ x.f0 <;> by_cases h2 : x.f0 ≤ x.f1
  all_goals
    go_enter Tryz.func74, Tryz.ntmps74
    go_wp2
    go_ret
    refine ⟨congrArg (fun b => Ending.returned (.bool b)) ?_, below_alloc (Below.refl _ _) _⟩
    first | rfl | (simp [h1, h2]; done) | (rw [Bool.eq_iff_iff]; simp [h1, h2]; done) | (rw [Bool.eq_iff_iff]; simp [h1, h2]; omega)
set_option maxHeartbeats 2000000 in
theorem module_Right4 (x : SGlob) (w : World) : Calls Tryz.prog 76 #[.agg #[.int .i64 x.f0, .bool x.f1, .int .u64 x.f2]] w (BoolEnd (Sp.globalOk x) w) := by
  unfold Sp.globalOk
  cases t1 : Sp.types [x.f0] with
  | false =>
    have T1 := Lib.hid (fun w A (h : IntsC w A [x.f0]) => (show Calls Tryz.prog 77 #[.slice A 1 1] w fun e w' => e = .returned (.bool false) ∧ w = w' from t1 ▸ module_types A 1 [x.f0] w h))
    clear t1
    go_enter Tryz.func76, Tryz.ntmps76
    go_wp2_with (first | ((go_at_call 77); (refine (T1.out _ _ ?hc).mono ?_); (case hc => (refine C_one_int _ _ _ ?_; simp [go_sem]; done)); rintro e w' ⟨rfl, rfl⟩))
    go_ret
    exact ⟨rfl, below_alloc (below_alloc (Below.refl _ _) _) _⟩
  | true =>
    by_cases h1 : x.f0 = 127
    · have h1' : (x.f0 != 127) = false := by simp [h1]
      have H1 := Lib.hid h1; clear h1
      have T1 := Lib.hid (fun w A (h : IntsC w A [x.f0]) => (show Calls Tryz.prog 77 #[.slice A 1 1] w fun e w' => e = .returned (.bool true) ∧ w = w' from t1 ▸ module_types A 1 [x.f0] w h))
      clear t1
      go_enter Tryz.func76, Tryz.ntmps76
      go_wp2_with (first | ((go_at_call 77); (refine (T1.out _ _ ?hc).mono ?_); (case hc => (refine C_one_int _ _ _ ?_; simp [go_sem]; done)); rintro e w' ⟨rfl, rfl⟩))
      go_ret
      refine ⟨congrArg (fun b => Ending.returned (.bool b)) ?_, below_alloc (below_alloc (Below.refl _ _) _) _⟩
      have h1 := H1.out
      first | rfl | (simp [h1]; done) | (rw [Bool.eq_iff_iff]; simp [h1]; done) | (rw [Bool.eq_iff_iff]; simp [h1]; omega)
    · have h1' : (x.f0 != 127) = true := by simp [h1]
      have H1 := Lib.hid h1; clear h1
      have T1 := Lib.hid (fun w A (h : IntsC w A [x.f0]) => (show Calls Tryz.prog 77 #[.slice A 1 1] w fun e w' => e = .returned (.bool true) ∧ w = w' from t1 ▸ module_types A 1 [x.f0] w h))
      clear t1
      go_enter Tryz.func76, Tryz.ntmps76
      go_wp2_with (first | ((go_at_call 77); (refine (T1.out _ _ ?hc).mono ?_); (case hc => (refine C_one_int _ _ _ ?_; simp [go_sem]; done)); rintro e w' ⟨rfl, rfl⟩))
      go_ret
      refine ⟨congrArg (fun b => Ending.returned (.bool b)) ?_, below_alloc (below_alloc (Below.refl _ _) _) _⟩
      have h1 := H1.out
      first | rfl | (simp [h1]; done) | (rw [Bool.eq_iff_iff]; simp [h1]; done) | (rw [Bool.eq_iff_iff]; simp [h1]; omega)
end Go.Proofs.YthehihjcpiadgaaGreat
end
section
namespace Go.Proofs.YthehihjcpiadgaaGreat
open Go.RowKit Go.Proofs.YthehihjcpiadgaaGreatW.PrintWords
set_option linter.unusedSimpArgs false
set_option linter.unusedVariables false
set_option maxHeartbeats 1000000 in
theorem coded1 (x : SInst) (cs : List Value) (w : World) (h : kInst.K w x cs) : Calls Tryz.prog 127 #[.agg cs.toArray] w (BoolEnd (!Sp.instOk x) w) := by
  obtain ⟨A4, c4, rfl, l4, g4⟩ := kInst_open h
  have HX := Lib.hid g4; clear g4 h
  go_enter Tryz.func127, Tryz.ntmps127
  go_wp2_with fail
  go_at_call 128
  refine (module_Inst x A4 c4 _ (by repeat (first | exact HX.out | apply Kd.C_alloc))).mono ?_
  rintro e w' ⟨rfl, hb1⟩
  have HB := Lib.hid hb1; clear hb1
  go_wp2_with fail
  go_ret
  exact ⟨rfl, below_step (below_alloc (Below.refl _ _) _) HB.out⟩
theorem coded1_enters (cs : Array Value) (w : World) : Sem.run Tryz.prog (callFunc 127 #[.agg cs]) w = .ok (.enter 127 #[.agg cs]) w := enters_of Tryz.func127 (by kernel_rfl) rfl _ w
set_option maxHeartbeats 2000000 in
theorem module_coded (x : Int) (xs : List Int) (ys : List SInst) (A B : Option Addr) (c d : Nat) (w : World) (hx : IntsC w A xs) (hy : kInst.C w B ys.length ys) :
    Calls Tryz.prog 72 #[.agg #[.int .i64 x, .slice A xs.length c, .slice B ys.length d]] w (BoolEnd (Sp.coded ⟨x, xs, ys⟩) w) := by
  have HX := Lib.hid hx; have HY := Lib.hid hy; clear hx hy
  unfold Sp.coded
  dsimp only
  cases t1 : Sp.index x with
  | false =>
    have I1 := Lib.hid (fun w => (show Calls Tryz.prog 67 #[.int .i64 x] w (fun e w' => e = .returned (.bool false) ∧ w = w') from t1 ▸ module_index x w))
    clear t1
    go_enter Tryz.func72, Tryz.ntmps72
    go_wp2_with (first | (go_at_call 67; with_reducible refine (I1.out _).mono ?_; rintro e w' ⟨rfl, rfl⟩))
    go_ret
    exact ⟨rfl, below_alloc (Below.refl _ _) _⟩
  | true =>
    have I1 := Lib.hid (fun w => (show Calls Tryz.prog 67 #[.int .i64 x] w (fun e w' => e = .returned (.bool true) ∧ w = w') from t1 ▸ module_index x w))
    clear t1
    rw [Bool.true_and]
    by_cases h1 : xs.length ≤ 256
    · have h1' : decide ((xs.length : Int) ≤ 256) = true := by simp; omega
      rw [decide_eq_true h1, Bool.true_and]
      cases t2 : Sp.types xs with
      | false =>
        have T1 := Lib.hid (fun w h => (show Calls Tryz.prog 77 #[.slice A xs.length c] w (fun e w' => e = .returned (.bool false) ∧ w = w') from t2 ▸ module_types A c xs w h))
        clear t2
        go_enter Tryz.func72, Tryz.ntmps72
        go_wp2_with (first | (go_at_call 67; with_reducible refine (I1.out _).mono ?_; rintro e w' ⟨rfl, rfl⟩) | (go_at_call 77; with_reducible refine (T1.out _ ?hc).mono ?_; (case hc => (with_reducible repeat (first | exact HX.out | exact HY.out | apply Kd.C_alloc | apply Kd.C_drew | apply Kd.C_drewN))); rintro e w' ⟨rfl, rfl⟩))
        go_ret
        exact ⟨rfl, below_alloc (Below.refl _ _) _⟩
      | true =>
        have T1 := Lib.hid (fun w h => (show Calls Tryz.prog 77 #[.slice A xs.length c] w (fun e w' => e = .returned (.bool true) ∧ w = w') from t2 ▸ module_types A c xs w h))
        clear t2
        rw [Bool.true_and]
        by_cases h2 : ys.length ≤ 65536
        · have h2' : decide ((ys.length : Int) ≤ 65536) = true := by simp; omega
          rw [decide_eq_true h2, Bool.true_and]
          go_enter Tryz.func72, Tryz.ntmps72
          go_wp2_with (first | (go_at_call 67; with_reducible refine (I1.out _).mono ?_; rintro e w' ⟨rfl, rfl⟩) | (go_at_call 77; with_reducible refine (T1.out _ ?hc).mono ?_; (case hc => (with_reducible repeat (first | exact HX.out | exact HY.out | apply Kd.C_alloc | apply Kd.C_drew | apply Kd.C_drewN))); rintro e w' ⟨rfl, rfl⟩) | (go_at_call 126; (refine (ContainsFunc_Inst 127 (fun i => !Sp.instOk i) coded1_enters (fun x cs w h => coded1 x cs w h) B d ys _ ?hc).mono ?_); (case hc => (with_reducible repeat (first | exact HX.out | exact HY.out | apply Kd.C_alloc | apply Kd.C_drew | apply Kd.C_drewN))); rintro e w' ⟨rfl, hb⟩))
          go_ret
          exact ⟨rfl, below_step (below_alloc (Below.refl _ _) _) hb⟩
        · have h2' : decide ((ys.length : Int) ≤ 65536) = false := by simp; omega
          rw [decide_eq_false h2, Bool.false_and]
          go_enter Tryz.func72, Tryz.ntmps72
          go_wp2_with (first | (go_at_call 67; with_reducible refine (I1.out _).mono ?_; rintro e w' ⟨rfl, rfl⟩) | (go_at_call 77; with_reducible refine (T1.out _ ?hc).mono ?_; (case hc => (with_reducible repeat (first | exact HX.out | exact HY.out | apply Kd.C_alloc | apply Kd.C_drew | apply Kd.C_drewN))); rintro e w' ⟨rfl, rfl⟩))
          go_ret
          exact ⟨rfl, below_alloc (Below.refl _ _) _⟩
    · have h1' : decide ((xs.length : Int) ≤ 256) = false := by simp; omega
      rw [decide_eq_false h1, Bool.false_and]
      go_enter Tryz.func72, Tryz.ntmps72
      go_wp2_with (first | (go_at_call 67; with_reducible refine (I1.out _).mono ?_; rintro e w' ⟨rfl, rfl⟩))
      go_ret
      exact ⟨rfl, below_alloc (Below.refl _ _) _⟩
set_option maxHeartbeats 2000000 in
theorem module_laid (a b : Int) (xs : List Int) (B : Option Addr) (d : Nat) (w : World) (act : Bool) :
    Calls Tryz.prog 79 #[.agg #[.bool act, .int .i64 a, .int .i64 b, .slice B xs.length d]] w (BoolEnd (Sp.laid ⟨act, a, b, xs⟩) w) := by
  unfold Sp.laid
  dsimp only
  cases act with
  | true =>
    rw [if_pos rfl]
    cases t1 : Sp.within a 0 3 with
    | false =>
      have W1 := Lib.hid (fun w => (show Calls Tryz.prog 137 #[.int .i64 a, .int .i64 4] w (fun e w' => e = .returned (.bool false) ∧ w = w') from t1 ▸ module_within a 4 w))
      clear t1
      cases t2 : Sp.index b with
      | false =>
        have I1 := Lib.hid (fun w => (show Calls Tryz.prog 67 #[.int .i64 b] w (fun e w' => e = .returned (.bool false) ∧ w = w') from t2 ▸ module_index b w))
        clear t2
        by_cases h1 : a = 0 <;> by_cases h2 : b = 0
        all_goals
          have H1 := Lib.hid h1; have H2 := Lib.hid h2
          first | have g1 : (a == 0) = true := (by simpa using h1) | have g1 : (a == 0) = false := (by simpa using h1)
          first | have g2 : (b == 0) = true := (by simpa using h2) | have g2 : (b == 0) = false := (by simpa using h2)
          clear h1 h2
          go_enter Tryz.func79, Tryz.ntmps79
          go_wp2_with (first | (go_at_call 137; with_reducible refine (W1.out _).mono ?_; rintro e w' ⟨rfl, rfl⟩) | (go_at_call 67; with_reducible refine (I1.out _).mono ?_; rintro e w' ⟨rfl, rfl⟩))
          all_goals
            go_ret
            refine ⟨congrArg (fun b => Ending.returned (.bool b)) ?_, below_alloc (Below.refl _ _) _⟩
            first | rfl | (simp; done) | (rw [Bool.eq_iff_iff]; simp; done) | (rw [Bool.eq_iff_iff]; simp; omega)
      | true =>
        have I1 := Lib.hid (fun w => (show Calls Tryz.prog 67 #[.int .i64 b] w (fun e w' => e = .returned (.bool true) ∧ w = w') from t2 ▸ module_index b w))
        clear t2
        by_cases h1 : a = 0 <;> by_cases h2 : b = 0
        all_goals
          have H1 := Lib.hid h1; have H2 := Lib.hid h2
          first | have g1 : (a == 0) = true := (by simpa using h1) | have g1 : (a == 0) = false := (by simpa using h1)
          first | have g2 : (b == 0) = true := (by simpa using h2) | have g2 : (b == 0) = false := (by simpa using h2)
          clear h1 h2
          go_enter Tryz.func79, Tryz.ntmps79
          go_wp2_with (first | (go_at_call 137; with_reducible refine (W1.out _).mono ?_; rintro e w' ⟨rfl, rfl⟩) | (go_at_call 67; with_reducible refine (I1.out _).mono ?_; rintro e w' ⟨rfl, rfl⟩))
          all_goals
            go_ret
            refine ⟨congrArg (fun b => Ending.returned (.bool b)) ?_, below_alloc (Below.refl _ _) _⟩
            first | rfl | (simp; done) | (rw [Bool.eq_iff_iff]; simp; done) | (rw [Bool.eq_iff_iff]; simp; omega)
    | true =>
      have W1 := Lib.hid (fun w => (show Calls Tryz.prog 137 #[.int .i64 a, .int .i64 4] w (fun e w' => e = .returned (.bool true) ∧ w = w') from t1 ▸ module_within a 4 w))
      clear t1
      cases t2 : Sp.index b with
      | false =>
        have I1 := Lib.hid (fun w => (show Calls Tryz.prog 67 #[.int .i64 b] w (fun e w' => e = .returned (.bool false) ∧ w = w') from t2 ▸ module_index b w))
        clear t2
        by_cases h1 : a = 0 <;> by_cases h2 : b = 0
        all_goals
          have H1 := Lib.hid h1; have H2 := Lib.hid h2
          first | have g1 : (a == 0) = true := (by simpa using h1) | have g1 : (a == 0) = false := (by simpa using h1)
          first | have g2 : (b == 0) = true := (by simpa using h2) | have g2 : (b == 0) = false := (by simpa using h2)
          clear h1 h2
          go_enter Tryz.func79, Tryz.ntmps79
          go_wp2_with (first | (go_at_call 137; with_reducible refine (W1.out _).mono ?_; rintro e w' ⟨rfl, rfl⟩) | (go_at_call 67; with_reducible refine (I1.out _).mono ?_; rintro e w' ⟨rfl, rfl⟩))
          all_goals
            go_ret
            refine ⟨congrArg (fun b => Ending.returned (.bool b)) ?_, below_alloc (Below.refl _ _) _⟩
            first | rfl | (simp; done) | (rw [Bool.eq_iff_iff]; simp; done) | (rw [Bool.eq_iff_iff]; simp; omega)
      | true =>
        have I1 := Lib.hid (fun w => (show Calls Tryz.prog 67 #[.int .i64 b] w (fun e w' => e = .returned (.bool true) ∧ w = w') from t2 ▸ module_index b w))
        clear t2
        by_cases h1 : a = 0 <;> by_cases h2 : b = 0
        all_goals
          have H1 := Lib.hid h1; have H2 := Lib.hid h2
          first | have g1 : (a == 0) = true := (by simpa using h1) | have g1 : (a == 0) = false := (by simpa using h1)
          first | have g2 : (b == 0) = true := (by simpa using h2) | have g2 : (b == 0) = false := (by simpa using h2)
          clear h1 h2
          go_enter Tryz.func79, Tryz.ntmps79
          go_wp2_with (first | (go_at_call 137; with_reducible refine (W1.out _).mono ?_; rintro e w' ⟨rfl, rfl⟩) | (go_at_call 67; with_reducible refine (I1.out _).mono ?_; rintro e w' ⟨rfl, rfl⟩))
          all_goals
            go_ret
            refine ⟨congrArg (fun b => Ending.returned (.bool b)) ?_, below_alloc (Below.refl _ _) _⟩
            first | rfl | (simp; done) | (rw [Bool.eq_iff_iff]; simp; done) | (rw [Bool.eq_iff_iff]; simp; omega)
  | false =>
    rw [if_neg (by simp)]
    by_cases h1 : a = 0 <;> by_cases h2 : b = 0
    all_goals
      have H1 := Lib.hid h1; have H2 := Lib.hid h2
      first | have g1 : (a == 0) = true := (by simpa using h1) | have g1 : (a == 0) = false := (by simpa using h1)
      first | have g2 : (b == 0) = true := (by simpa using h2) | have g2 : (b == 0) = false := (by simpa using h2)
      clear h1 h2
      go_enter Tryz.func79, Tryz.ntmps79
      go_wp2
      all_goals
        go_ret
        refine ⟨congrArg (fun b => Ending.returned (.bool b)) ?_, below_alloc (Below.refl _ _) _⟩
        have h1 := H1.out; have h2 := H2.out
        first | rfl | (simp [h1, h2]; done) | (rw [Bool.eq_iff_iff]; simp [h1, h2]; done) | (rw [Bool.eq_iff_iff]; simp [h1, h2]; omega)
end Go.Proofs.YthehihjcpiadgaaGreat
end
section
namespace Go.Proofs.YthehihjcpiadgaaGreat
open Go.RowKit Go.Proofs.YthehihjcpiadgaaGreatW.PrintWords Go.Maps Go.WideMaps
set_option linter.unusedSimpArgs false
set_option linter.unusedVariables false
abbrev mapLaw : Keyed Tryz.prog 9 := string_keyed Tryz.underlying9
theorem zeroInt (w : World) : (zeroValue 3).run Tryz.prog w = .ok (.int .i64 0) w := by kernel_rfl
/-- What the map says of names: those that came once. -/
def NamesAt (D : DataW Unit) (seen : List (List UInt8)) : Prop := IsMap D ∧ ∀ s : List UInt8, D.atKey (.string s) (.lit (.int .i64 0)) = .lit (.int .i64 (if s ∈ seen then 1 else 0))
theorem namesAt_nil : NamesAt (.map []) [] := ⟨isMap_empty, fun s => rfl⟩
theorem namesAt_put {D : DataW Unit} {seen : List (List UInt8)} (h : NamesAt D seen) (s : List UInt8) : NamesAt (D.put (.string s) (.lit (.int .i64 1))) (s :: seen) := by
  refine ⟨h.1.put _ _, fun s' => ?_⟩
  by_cases e : s' = s
  · subst e
    rw [atKey_put_same h.1 (by trivial)]
    simp
  · rw [atKey_put_other (fun he => e (by injection he)), h.2 s']
    have : (s' ∈ s :: seen) = (s' ∈ seen) := by simp [e]
    simp only [this]
def seenAt (xs : List SExp) (k : Nat) : List (List UInt8) := ((xs.take k).map (fun x => x.f0.data.toList)).reverse
theorem seenAt_succ {xs : List SExp} {k : Nat} (h : k < xs.length) : seenAt xs (k + 1) = (rd_TExp xs k).f0.data.toList :: seenAt xs k := by
  unfold seenAt
  rw [List.take_succ_eq_append_getElem h, List.map_append, List.reverse_append]
  simp [rd_TExp, List.getD_eq_getElem?_getD, h]
theorem exported_step {xs : List SExp} {k : Nat} (h : k < xs.length) : Sp.exported (seenAt xs k) (xs.drop k) = (!decide ((rd_TExp xs k).f0.data.toList ∈ seenAt xs k) && Sp.name (rd_TExp xs k).f0 && decide ((rd_TExp xs k).f1 = 0 ∨ (rd_TExp xs k).f1 = 2 ∨ (rd_TExp xs k).f1 = 3) && Sp.index (rd_TExp xs k).f2 && Sp.exported (seenAt xs (k + 1)) (xs.drop (k + 1))) := by
  rw [List.drop_eq_getElem_cons h, seenAt_succ h]
  have e : rd_TExp xs k = xs[k] := by simp [rd_TExp, List.getD_eq_getElem?_getD, h]
  rw [e]
  rfl
theorem exported_end (l : List (List UInt8)) (xs : List SExp) : Sp.exported l (xs.drop xs.length) = true := by
  rw [List.drop_length]; rfl
theorem kinds4 (x : Int) : ((x == 0) = true ∧ decide (x = 0 ∨ x = 2 ∨ x = 3) = true) ∨ ((x == 0) = false ∧ (x == 2) = true ∧ decide (x = 0 ∨ x = 2 ∨ x = 3) = true) ∨ ((x == 0) = false ∧ (x == 2) = false ∧ (x == 3) = true ∧ decide (x = 0 ∨ x = 2 ∨ x = 3) = true) ∨ ((x == 0) = false ∧ (x == 2) = false ∧ (x == 3) = false ∧ decide (x = 0 ∨ x = 2 ∨ x = 3) = false) := by
  simp only [beq_iff_eq, beq_eq_false_iff_ne, decide_eq_true_eq, decide_eq_false_iff_not, ne_eq]
  omega
theorem below_grown {w w' : World} (h : Below w.heap.size w w') : w.grownBy w' none := ⟨h.os, h.tape, h.output, h.size, fun i hi _ => h.block i hi⟩
set_option maxRecDepth 100000 in
set_option maxHeartbeats 8000000 in
theorem module_exported (A : Option Addr) (cA : Nat) (xs : List SExp) (w : World) (hx : kExp.C w A xs.length xs) (hsz : ∀ i : Int, (rd_TExp xs i).f0.size ≤ maxLen) (hlen : xs.length < maxLen) :
    Calls Tryz.prog 68 #[.slice A xs.length cA] w (BoolEnd (Sp.exported [] xs) w) := by
  have mx := Kd.C_max hx
  have HX := Lib.hid hx; have HZ := Lib.hid hsz; have HL := Lib.hid hlen; clear hx hsz hlen
  have hmm := @run_makeMap Tryz.prog
  go_enter Tryz.func68, Tryz.ntmps68
  go_wp2
  go_loopw [10] (fun i wr => ∃ (k : Nat) (D : DataW Unit), k ≤ xs.length ∧ i = .int .i64 k ∧ Hid (wr.ownsMap Tryz.prog 9 (plainElem Tryz.prog 3) w.heap.size k D) ∧ Hid (NamesAt D (seenAt xs k)) ∧ Hid (Sp.exported [] xs = Sp.exported (seenAt xs k) (xs.drop k)) ∧ Hid (Below w.heap.size w wr)) (fun i _ => xs.length - (intOf i).toNat)
  case atStart => exact ⟨0, .map [], by omega, rfl, Lib.hid (World.ownsMap_made _ _ _ _), Lib.hid namesAt_nil, Lib.hid rfl, Lib.hid (below_alloc (Below.refl _ _) _)⟩
  case round =>
    obtain ⟨k, D, hk, rfl, HO, HN, HE, HB⟩ := hrel
    rename_i wr _
    by_cases hlt : k < xs.length
    · obtain ⟨ad, rfl, e0, e1, e2⟩ := at_TExp (Kd.C_below HX.out HB.out) (k : Int) (by omega) (by omega)
      rw [Int.toNat_natCast] at e0 e1 e2
      have hst := exported_step hlt
      have hsc := seenAt_succ hlt
      have hz := HZ.out (k : Int)
      have hkey := keyOf_string_mk Tryz.underlying9 hz
      obtain ⟨x, hxe⟩ : ∃ x, x = rd_TExp xs (k : Int) := ⟨_, rfl⟩
      rw [← hxe] at e0 e1 e2 hst hsc hz hkey
      clear hxe
      have hE := HE.out
      have HE' := Lib.hid (hE.trans hst)
      have HSC := Lib.hid hsc
      clear hE hst hsc
      have hown := HO.out
      obtain ⟨x0, x1, x2⟩ := x
      dsimp only at e0 e1 e2 hz hkey HE' HSC
      -- ROUND
      have hown1 : (wr.alloc (.cells #[.string x0, .int .i64 x1, .int .i64 x2] 86)).ownsMap Tryz.prog 9 (plainElem Tryz.prog 3) w.heap.size k D := hown.alloc _
      have hne : wr.heap.size ≠ w.heap.size := by have := hown.lt; omega
      clear hown
      obtain ⟨c, hrun, hat, _⟩ := hown1.lookup_int mapLaw Tryz.underlying162 Tryz.underlying3 (zeroInt _) hkey
      have hcv : c = if x0.data.toList ∈ seenAt xs k then 1 else 0 := by
        have := hat.symm.trans (HN.out.2 x0.data.toList)
        injection this with this
        injection this with _ this
      by_cases hs : x0.data.toList ∈ seenAt xs k
      · rw [if_pos hs] at hcv
        subst hcv
        have hE := HE'.out
        rw [decide_eq_true hs] at hE
        simp only [Bool.not_true, Bool.false_and] at hE
        have HE2 := Lib.hid hE
        clear hE HE' hs
        rcases kinds4 x1 with ⟨g0, hk4⟩ | ⟨g0, g1, hk4⟩ | ⟨g0, g1, g2, hk4⟩ | ⟨g0, g1, g2, hk4⟩
        all_goals
          clear hk4
          go_wp2_with (first | (at_mapUpdate; refine wpList_mapUpdate_own _ rfl _ _ _ 162 rfl 9 3 mapLaw Tryz.underlying162 _ w.heap.size k _ rfl hown1 (by have := HL.out; omega) _ _ _ rfl rfl hkey _ [] (plainElem_int Tryz.underlying3 (by decide)) ?_) | go_in)
          intro w1 hown2 hgrow1
          have d0 : w1.cell? ⟨wr.heap.size, 0, none⟩ = some (.string x0) := hgrow1.cell (a := ⟨wr.heap.size, 0, none⟩) (by simp [go_sem]) (by intro he; injection he with he; exact hne he)
          have d1 : w1.cell? ⟨wr.heap.size, 1, none⟩ = some (.int .i64 x1) := hgrow1.cell (a := ⟨wr.heap.size, 1, none⟩) (by simp [go_sem]) (by intro he; injection he with he; exact hne he)
          have d2 : w1.cell? ⟨wr.heap.size, 2, none⟩ = some (.int .i64 x2) := hgrow1.cell (a := ⟨wr.heap.size, 2, none⟩) (by simp [go_sem]) (by intro he; injection he with he; exact hne he)
          obtain ⟨c2, hrun2, hat2, _⟩ := hown2.lookup_int mapLaw Tryz.underlying162 Tryz.underlying3 (zeroInt _) hkey
          have hc2 := hat2.symm.trans (atKey_put_same HN.out.1 (by trivial) _ _)
          obtain rfl : c2 = 2 := by injection hc2 with hc2; injection hc2
          have HO2 := Lib.hid hown2
          have HB2 := Lib.hid ((below_alloc HB.out _).grown hgrow1 (by have := HB.out.size; simp; omega) (fun j hj => by cases hj; exact Nat.le_refl _))
          have z1 : wr.heap.size < w1.heap.size := by have := hgrow1.size; simp at this; omega
          clear hat hat2 hc2 hown1 hown2 hgrow1 hrun hne
          go_wp2_with fail
          go_ret
          exact ⟨by rw [HE2.out]; rfl, HB2.out⟩
      · rw [if_neg hs] at hcv
        subst hcv
        have hE := HE'.out
        rw [decide_eq_false hs] at hE
        simp only [Bool.not_false, Bool.true_and] at hE
        have HE2 := Lib.hid hE
        clear hE HE' hs
        cases t1 : Sp.name x0 with
        | false =>
          have N1 := Lib.hid (fun w => (show Calls Tryz.prog 66 #[.string x0] w (BoolEnd false w) from t1 ▸ module_name x0 w))
          have hE := HE2.out
          rw [t1] at hE
          simp only [Bool.false_and] at hE
          have HE3 := Lib.hid hE
          clear hE t1 HE2
          rcases kinds4 x1 with ⟨g0, hk4⟩ | ⟨g0, g1, hk4⟩ | ⟨g0, g1, g2, hk4⟩ | ⟨g0, g1, g2, hk4⟩
          all_goals
            clear hk4
            go_wp2_with (first | (at_mapUpdate; refine wpList_mapUpdate_own _ rfl _ _ _ 162 rfl 9 3 mapLaw Tryz.underlying162 _ w.heap.size k _ rfl hown1 (by have := HL.out; omega) _ _ _ rfl rfl hkey _ [] (plainElem_int Tryz.underlying3 (by decide)) ?_) | go_in)
            intro w1 hown2 hgrow1
            have d0 : w1.cell? ⟨wr.heap.size, 0, none⟩ = some (.string x0) := hgrow1.cell (a := ⟨wr.heap.size, 0, none⟩) (by simp [go_sem]) (by intro he; injection he with he; exact hne he)
            have d1 : w1.cell? ⟨wr.heap.size, 1, none⟩ = some (.int .i64 x1) := hgrow1.cell (a := ⟨wr.heap.size, 1, none⟩) (by simp [go_sem]) (by intro he; injection he with he; exact hne he)
            have d2 : w1.cell? ⟨wr.heap.size, 2, none⟩ = some (.int .i64 x2) := hgrow1.cell (a := ⟨wr.heap.size, 2, none⟩) (by simp [go_sem]) (by intro he; injection he with he; exact hne he)
            obtain ⟨c2, hrun2, hat2, _⟩ := hown2.lookup_int mapLaw Tryz.underlying162 Tryz.underlying3 (zeroInt _) hkey
            have hc2 := hat2.symm.trans (atKey_put_same HN.out.1 (by trivial) _ _)
            obtain rfl : c2 = 1 := by injection hc2 with hc2; injection hc2
            have HO2 := Lib.hid hown2
            have HB2 := Lib.hid ((below_alloc HB.out _).grown hgrow1 (by have := HB.out.size; simp; omega) (fun j hj => by cases hj; exact Nat.le_refl _))
            have z1 : wr.heap.size < w1.heap.size := by have := hgrow1.size; simp at this; omega
            clear hat hat2 hc2 hown1 hown2 hgrow1 hrun hne
            go_wp2_with (first | ((go_at_call 66); (with_reducible refine (N1.out _).mono ?_); rintro e w2 ⟨rfl, hb2⟩; obtain ⟨hbca, hbcb⟩ := bcell hb2; have f0 : w2.cell? ⟨wr.heap.size, 0, none⟩ = some (.string x0) := (hbca _ _ z1).trans d0; have f1 : w2.cell? ⟨wr.heap.size, 1, none⟩ = some (.int .i64 x1) := (hbca _ _ z1).trans d1; have f2 : w2.cell? ⟨wr.heap.size, 2, none⟩ = some (.int .i64 x2) := (hbca _ _ z1).trans d2; have HB3 := Lib.hid (hb2.mono (by have := HB2.out.size; exact this)); have HO3 := Lib.hid (HO2.out.kept (below_grown hb2) (by simp)); clear hb2 hbca hbcb d0 d1 d2))
            go_ret
            exact ⟨by rw [HE3.out]; rfl, HB2.out.trans HB3.out⟩
        | true =>
          have N1 := Lib.hid (fun w => (show Calls Tryz.prog 66 #[.string x0] w (BoolEnd true w) from t1 ▸ module_name x0 w))
          have hE := HE2.out
          rw [t1] at hE
          simp only [Bool.true_and] at hE
          have HE3 := Lib.hid hE
          clear hE t1 HE2
          cases t2 : Sp.index x2 with
          | false =>
            have I1 := Lib.hid (fun w => (show Calls Tryz.prog 67 #[.int .i64 x2] w (fun e w' => e = .returned (.bool false) ∧ w = w') from t2 ▸ module_index x2 w))
            have hE := HE3.out
            rw [t2] at hE
            have HE4 := Lib.hid hE
            clear hE t2 HE3
            rcases kinds4 x1 with ⟨g0, hk4⟩ | ⟨g0, g1, hk4⟩ | ⟨g0, g1, g2, hk4⟩ | ⟨g0, g1, g2, hk4⟩
            all_goals
              have hE := HE4.out
              rw [hk4] at hE
              simp only [Bool.true_and, Bool.false_and, Bool.and_true, Bool.and_false] at hE
              have HE5 := Lib.hid hE
              clear hE hk4 HE4
              go_wp2_with (first | (at_mapUpdate; refine wpList_mapUpdate_own _ rfl _ _ _ 162 rfl 9 3 mapLaw Tryz.underlying162 _ w.heap.size k _ rfl hown1 (by have := HL.out; omega) _ _ _ rfl rfl hkey _ [] (plainElem_int Tryz.underlying3 (by decide)) ?_) | go_in)
              intro w1 hown2 hgrow1
              have d0 : w1.cell? ⟨wr.heap.size, 0, none⟩ = some (.string x0) := hgrow1.cell (a := ⟨wr.heap.size, 0, none⟩) (by simp [go_sem]) (by intro he; injection he with he; exact hne he)
              have d1 : w1.cell? ⟨wr.heap.size, 1, none⟩ = some (.int .i64 x1) := hgrow1.cell (a := ⟨wr.heap.size, 1, none⟩) (by simp [go_sem]) (by intro he; injection he with he; exact hne he)
              have d2 : w1.cell? ⟨wr.heap.size, 2, none⟩ = some (.int .i64 x2) := hgrow1.cell (a := ⟨wr.heap.size, 2, none⟩) (by simp [go_sem]) (by intro he; injection he with he; exact hne he)
              obtain ⟨c2, hrun2, hat2, _⟩ := hown2.lookup_int mapLaw Tryz.underlying162 Tryz.underlying3 (zeroInt _) hkey
              have hc2 := hat2.symm.trans (atKey_put_same HN.out.1 (by trivial) _ _)
              obtain rfl : c2 = 1 := by injection hc2 with hc2; injection hc2
              have HO2 := Lib.hid hown2
              have HB2 := Lib.hid ((below_alloc HB.out _).grown hgrow1 (by have := HB.out.size; simp; omega) (fun j hj => by cases hj; exact Nat.le_refl _))
              have z1 : wr.heap.size < w1.heap.size := by have := hgrow1.size; simp at this; omega
              clear hat hat2 hc2 hown1 hown2 hgrow1 hrun hne
              go_wp2_with (first | ((go_at_call 66); (with_reducible refine (N1.out _).mono ?_); rintro e w2 ⟨rfl, hb2⟩; obtain ⟨hbca, hbcb⟩ := bcell hb2; have f0 : w2.cell? ⟨wr.heap.size, 0, none⟩ = some (.string x0) := (hbca _ _ z1).trans d0; have f1 : w2.cell? ⟨wr.heap.size, 1, none⟩ = some (.int .i64 x1) := (hbca _ _ z1).trans d1; have f2 : w2.cell? ⟨wr.heap.size, 2, none⟩ = some (.int .i64 x2) := (hbca _ _ z1).trans d2; have HB3 := Lib.hid (hb2.mono (by have := HB2.out.size; exact this)); have HO3 := Lib.hid (HO2.out.kept (below_grown hb2) (by simp)); clear hb2 hbca hbcb d0 d1 d2) | ((go_at_call 67); (with_reducible refine (I1.out _).mono ?_); rintro e w' ⟨rfl, rfl⟩))
              first
              | (go_ret; exact ⟨by rw [HE5.out]; rfl, HB2.out.trans HB3.out⟩)
              | (go_roundw; (case rel => exact ⟨k + 1, _, by omega, by go_num, HO3, Lib.hid (HSC.out.symm ▸ namesAt_put HN.out x0.data.toList), HE5, Lib.hid (HB2.out.trans HB3.out)⟩); (case measure => simp [intOf]; omega))
          | true =>
            have I1 := Lib.hid (fun w => (show Calls Tryz.prog 67 #[.int .i64 x2] w (fun e w' => e = .returned (.bool true) ∧ w = w') from t2 ▸ module_index x2 w))
            have hE := HE3.out
            rw [t2] at hE
            have HE4 := Lib.hid hE
            clear hE t2 HE3
            rcases kinds4 x1 with ⟨g0, hk4⟩ | ⟨g0, g1, hk4⟩ | ⟨g0, g1, g2, hk4⟩ | ⟨g0, g1, g2, hk4⟩
            all_goals
              have hE := HE4.out
              rw [hk4] at hE
              simp only [Bool.true_and, Bool.false_and, Bool.and_true, Bool.and_false] at hE
              have HE5 := Lib.hid hE
              clear hE hk4 HE4
              go_wp2_with (first | (at_mapUpdate; refine wpList_mapUpdate_own _ rfl _ _ _ 162 rfl 9 3 mapLaw Tryz.underlying162 _ w.heap.size k _ rfl hown1 (by have := HL.out; omega) _ _ _ rfl rfl hkey _ [] (plainElem_int Tryz.underlying3 (by decide)) ?_) | go_in)
              intro w1 hown2 hgrow1
              have d0 : w1.cell? ⟨wr.heap.size, 0, none⟩ = some (.string x0) := hgrow1.cell (a := ⟨wr.heap.size, 0, none⟩) (by simp [go_sem]) (by intro he; injection he with he; exact hne he)
              have d1 : w1.cell? ⟨wr.heap.size, 1, none⟩ = some (.int .i64 x1) := hgrow1.cell (a := ⟨wr.heap.size, 1, none⟩) (by simp [go_sem]) (by intro he; injection he with he; exact hne he)
              have d2 : w1.cell? ⟨wr.heap.size, 2, none⟩ = some (.int .i64 x2) := hgrow1.cell (a := ⟨wr.heap.size, 2, none⟩) (by simp [go_sem]) (by intro he; injection he with he; exact hne he)
              obtain ⟨c2, hrun2, hat2, _⟩ := hown2.lookup_int mapLaw Tryz.underlying162 Tryz.underlying3 (zeroInt _) hkey
              have hc2 := hat2.symm.trans (atKey_put_same HN.out.1 (by trivial) _ _)
              obtain rfl : c2 = 1 := by injection hc2 with hc2; injection hc2
              have HO2 := Lib.hid hown2
              have HB2 := Lib.hid ((below_alloc HB.out _).grown hgrow1 (by have := HB.out.size; simp; omega) (fun j hj => by cases hj; exact Nat.le_refl _))
              have z1 : wr.heap.size < w1.heap.size := by have := hgrow1.size; simp at this; omega
              clear hat hat2 hc2 hown1 hown2 hgrow1 hrun hne
              go_wp2_with (first | ((go_at_call 66); (with_reducible refine (N1.out _).mono ?_); rintro e w2 ⟨rfl, hb2⟩; obtain ⟨hbca, hbcb⟩ := bcell hb2; have f0 : w2.cell? ⟨wr.heap.size, 0, none⟩ = some (.string x0) := (hbca _ _ z1).trans d0; have f1 : w2.cell? ⟨wr.heap.size, 1, none⟩ = some (.int .i64 x1) := (hbca _ _ z1).trans d1; have f2 : w2.cell? ⟨wr.heap.size, 2, none⟩ = some (.int .i64 x2) := (hbca _ _ z1).trans d2; have HB3 := Lib.hid (hb2.mono (by have := HB2.out.size; exact this)); have HO3 := Lib.hid (HO2.out.kept (below_grown hb2) (by simp)); clear hb2 hbca hbcb d0 d1 d2) | ((go_at_call 67); (with_reducible refine (I1.out _).mono ?_); rintro e w' ⟨rfl, rfl⟩))
              first
              | (go_ret; exact ⟨by rw [HE5.out]; rfl, HB2.out.trans HB3.out⟩)
              | (go_roundw; (case rel => exact ⟨k + 1, _, by omega, by go_num, HO3, Lib.hid (HSC.out.symm ▸ namesAt_put HN.out x0.data.toList), HE5, Lib.hid (HB2.out.trans HB3.out)⟩); (case measure => simp [intOf]; omega))
    · go_wp2
      go_ret
      have : k = xs.length := by omega
      subst this
      exact ⟨by rw [HE.out, exported_end]; rfl, HB.out⟩
end Go.Proofs.YthehihjcpiadgaaGreat
end
section
namespace Go.Proofs.YthehihjcpiadgaaGreat
open Go.RowKit Go.Proofs.YthehihjcpiadgaaGreatW.PrintWords
set_option linter.unusedSimpArgs false
set_option linter.unusedVariables false
theorem calls_Ty (x : STy) (cs : List Value) (w : World) (h : kTy.K w x cs) : Calls Tryz.prog 63 #[.agg cs.toArray] w (BoolEnd (Sp.typed x) w) := by
  obtain ⟨A0, c0, A1, c1, rfl, l0, g0, l1, g1⟩ := kTy_open h
  exact module_typed A0 A1 c0 c1 x.f0 x.f1 w g0 g1
theorem calls_Imp (x : SImp) (cs : List Value) (w : World) (h : kImp.K w x cs) : Calls Tryz.prog 65 #[.agg cs.toArray] w (BoolEnd (Sp.imported x) w) := by
  obtain rfl := kImp_open h
  exact module_Right1 x w
theorem calls_Cus (x : SCus) (cs : List Value) (w : World) (h : kCus.K w x cs) : Calls Tryz.prog 70 #[.agg cs.toArray] w (BoolEnd (Sp.custom x) w) := by
  obtain ⟨A1, c1, rfl, l1, g1⟩ := kCus_open h
  exact module_Right2 x A1 c1 w
theorem calls_Fun (x : SFun) (cs : List Value) (w : World) (h : kFun.K w x cs) : Calls Tryz.prog 72 #[.agg cs.toArray] w (BoolEnd (Sp.coded x) w) := by
  obtain ⟨A1, c1, A2, c2, rfl, l1, g1, l2, g2⟩ := kFun_open h
  exact module_coded x.f0 x.f1 x.f2 A1 A2 c1 c2 w g1 g2
theorem calls_Mem (x : SMem) (cs : List Value) (w : World) (h : kMem.K w x cs) : Calls Tryz.prog 74 #[.agg cs.toArray] w (BoolEnd (Sp.memory x) w) := by
  obtain rfl := kMem_open h
  exact module_Right3 x w
theorem calls_Glob (x : SGlob) (cs : List Value) (w : World) (h : kGlob.K w x cs) : Calls Tryz.prog 76 #[.agg cs.toArray] w (BoolEnd (Sp.globalOk x) w) := by
  obtain rfl := kGlob_open h
  exact module_Right4 x w
theorem calls_Data (x : SData) (cs : List Value) (w : World) (h : kData.K w x cs) : Calls Tryz.prog 79 #[.agg cs.toArray] w (BoolEnd (Sp.laid x) w) := by
  obtain ⟨A3, c3, rfl, l3, g3⟩ := kData_open h
  exact module_laid x.f1 x.f2 x.f3 A3 c3 w x.f0
theorem full_is (M : SMod) (n1 : M.f1.length ≤ 140737488355328) (n2 : M.f2.length ≤ 140737488355328) : module_full.f M.f0 M.f1 M.f2 M.f3 M.f4 M.f5 M.f6 M.f7 = some (Sp.full M) := by
  unfold module_full.f Sp.full
  rw [Tx.w64 (by omega) (by omega)]
  (repeat' split) <;> (refine congrArg some ?_; first | (symm; rw [decide_eq_true_iff]; omega) | (rw [Bool.eq_iff_iff]; simp only [decide_eq_true_iff]; omega))
def ErrEnd (n : Int) (w : World) (e : Ending) (w' : World) : Prop := e = .returned (.int .i64 n) ∧ Below w.heap.size w w'
set_option maxRecDepth 100000 in
set_option maxHeartbeats 8000000 in
theorem module_Right (M : SMod) (cs : List Value) (w : World) (h : kMod.K w M cs) (n1 : M.f1.length ≤ 140737488355328) (n2 : M.f2.length ≤ 140737488355328) (hsz : ∀ i : Int, (rd_TExp M.f5 i).f0.size ≤ maxLen) : Calls Tryz.prog 37 #[.agg cs.toArray] w (ErrEnd (Sp.right M) w) := by
  obtain ⟨A0, c0, A1, c1, A2, c2, A3, c3, A4, c4, A5, c5, A6, c6, A7, c7, rfl, l0, g0, l1, g1, l2, g2, l3, g3, l4, g4, l5, g5, l6, g6, l7, g7⟩ := kMod_open h
  have CF := Lib.hid (fun W (hb : Below w.heap.size w W) => module_full.calls A0 c0 M.f0 A1 c1 M.f1 A2 c2 M.f2 A3 c3 M.f3 A4 c4 M.f4 A5 c5 M.f5 A6 c6 M.f6 A7 c7 M.f7 (Sp.full M) W (Kd.C_below g0 hb) l0 (Kd.C_below g1 hb) l1 (Kd.C_below g2 hb) l2 (Kd.C_below g3 hb) l3 (Kd.C_below g4 hb) l4 (Kd.C_below g5 hb) l5 (Kd.C_below g6 hb) l6 (Kd.C_below g7 hb) l7 (full_is M n1 n2))
  have C0 := Lib.hid (fun W (hb : Below w.heap.size w W) => all_Ty 63 Sp.typed W (fun cs w => enters_of Tryz.func63 (by kernel_rfl) rfl _ w) (fun x cs w' _ hx => calls_Ty x cs w' hx) A0 c0 M.f0 (Kd.C_below g0 hb))
  have C1 := Lib.hid (fun W (hb : Below w.heap.size w W) => all_Imp 65 Sp.imported W (fun cs w => enters_of Tryz.func65 (by kernel_rfl) rfl _ w) (fun x cs w' _ hx => calls_Imp x cs w' hx) A1 c1 M.f1 (Kd.C_below g1 hb))
  have C2 := Lib.hid (fun W (hb : Below w.heap.size w W) (hl : M.f5.length < maxLen) => module_exported A5 c5 M.f5 W (Kd.C_below g5 hb) hsz hl)
  have C3 := Lib.hid (fun W (hb : Below w.heap.size w W) => all_Cus 70 Sp.custom W (fun cs w => enters_of Tryz.func70 (by kernel_rfl) rfl _ w) (fun x cs w' _ hx => calls_Cus x cs w' hx) A7 c7 M.f7 (Kd.C_below g7 hb))
  have C4 := Lib.hid (fun W (hb : Below w.heap.size w W) => all_Fun 72 Sp.coded W (fun cs w => enters_of Tryz.func72 (by kernel_rfl) rfl _ w) (fun x cs w' _ hx => calls_Fun x cs w' hx) A2 c2 M.f2 (Kd.C_below g2 hb))
  have C5 := Lib.hid (fun W (hb : Below w.heap.size w W) => all_Mem 74 Sp.memory W (fun cs w => enters_of Tryz.func74 (by kernel_rfl) rfl _ w) (fun x cs w' _ hx => calls_Mem x cs w' hx) A3 c3 M.f3 (Kd.C_below g3 hb))
  have C6 := Lib.hid (fun W (hb : Below w.heap.size w W) => all_Glob 76 Sp.globalOk W (fun cs w => enters_of Tryz.func76 (by kernel_rfl) rfl _ w) (fun x cs w' _ hx => calls_Glob x cs w' hx) A4 c4 M.f4 (Kd.C_below g4 hb))
  have C7 := Lib.hid (fun W (hb : Below w.heap.size w W) => all_Data 79 Sp.laid W (fun cs w => enters_of Tryz.func79 (by kernel_rfl) rfl _ w) (fun x cs w' _ hx => calls_Data x cs w' hx) A6 c6 M.f6 (Kd.C_below g6 hb))
  clear g0 l0 g1 l1 g2 l2 g3 l3 g4 l4 g5 l5 g6 l6 g7 l7 h n1 n2 hsz
  unfold Sp.right
  have BK0 := Lib.hid (show (w.alloc (.cells #[.slice A0 M.f0.length c0, .slice A1 M.f1.length c1, .slice A2 M.f2.length c2, .slice A3 M.f3.length c3, .slice A4 M.f4.length c4, .slice A5 M.f5.length c5, .slice A6 M.f6.length c6, .slice A7 M.f7.length c7] 37)).heap[w.heap.size]? = some (.cells #[.slice A0 M.f0.length c0, .slice A1 M.f1.length c1, .slice A2 M.f2.length c2, .slice A3 M.f3.length c3, .slice A4 M.f4.length c4, .slice A5 M.f5.length c5, .slice A6 M.f6.length c6, .slice A7 M.f7.length c7] 37 (0, 0)) from heap_alloc_new w _)
  have HB0 := Lib.hid (below_alloc (Below.refl w.heap.size w) (.cells #[.slice A0 M.f0.length c0, .slice A1 M.f1.length c1, .slice A2 M.f2.length c2, .slice A3 M.f3.length c3, .slice A4 M.f4.length c4, .slice A5 M.f5.length c5, .slice A6 M.f6.length c6, .slice A7 M.f7.length c7] 37))
  cases tf : Sp.full M with
  | true =>
    rw [tf] at CF
    rw [if_pos rfl]
    go_enter Tryz.func37, Tryz.ntmps37
    go_wp2_with (first | ((go_at_call 61); (with_reducible refine (CF.out _ HB0.out).mono ?_); rintro e w1 ⟨rfl, hb⟩; have BK1 := Lib.hid ((hb.block w.heap.size (blk_lt BK0.out)).trans BK0.out); have HB1 := Lib.hid (HB0.out.trans (hb.mono HB0.out.size)); clear hb))
    go_ret
    exact ⟨rfl, HB1.out⟩
  | false =>
    have hl5 : M.f5.length < maxLen := by have := of_decide_eq_false tf; unfold maxLen; omega
    rw [tf] at CF
    rw [if_neg (by simp)]
    clear tf
    cases t0 : M.f0.all Sp.typed with
    | false =>
      rw [t0] at C0
      go_enter Tryz.func37, Tryz.ntmps37
      go_wp2_with (first | ((go_at_call 61); (with_reducible refine (CF.out _ HB0.out).mono ?_); rintro e w1 ⟨rfl, hb⟩; have BK1 := Lib.hid ((hb.block w.heap.size (blk_lt BK0.out)).trans BK0.out); have HB1 := Lib.hid (HB0.out.trans (hb.mono HB0.out.size)); have d0 : w1.cell? ⟨w.heap.size, 0, none⟩ = some (.slice A0 M.f0.length c0) := (blk_cell BK1.out 0).trans rfl; clear hb) | ((go_at_call 62); (with_reducible refine (C0.out _ HB1.out).mono ?_); rintro e w2 ⟨rfl, hb⟩; have BK2 := Lib.hid ((hb.block w.heap.size (blk_lt BK1.out)).trans BK1.out); have HB2 := Lib.hid (HB1.out.trans (hb.mono HB1.out.size)); clear hb))
      go_ret
      exact ⟨by simp, HB2.out⟩
    | true =>
      rw [t0] at C0
      clear t0
      cases t1 : M.f1.all Sp.imported with
      | false =>
        rw [t1] at C1
        go_enter Tryz.func37, Tryz.ntmps37
        go_wp2_with (first | ((go_at_call 61); (with_reducible refine (CF.out _ HB0.out).mono ?_); rintro e w1 ⟨rfl, hb⟩; have BK1 := Lib.hid ((hb.block w.heap.size (blk_lt BK0.out)).trans BK0.out); have HB1 := Lib.hid (HB0.out.trans (hb.mono HB0.out.size)); have d0 : w1.cell? ⟨w.heap.size, 0, none⟩ = some (.slice A0 M.f0.length c0) := (blk_cell BK1.out 0).trans rfl; clear hb) | ((go_at_call 62); (with_reducible refine (C0.out _ HB1.out).mono ?_); rintro e w2 ⟨rfl, hb⟩; have BK2 := Lib.hid ((hb.block w.heap.size (blk_lt BK1.out)).trans BK1.out); have HB2 := Lib.hid (HB1.out.trans (hb.mono HB1.out.size)); have d1 : w2.cell? ⟨w.heap.size, 1, none⟩ = some (.slice A1 M.f1.length c1) := (blk_cell BK2.out 1).trans rfl; clear hb) | ((go_at_call 64); (with_reducible refine (C1.out _ HB2.out).mono ?_); rintro e w3 ⟨rfl, hb⟩; have BK3 := Lib.hid ((hb.block w.heap.size (blk_lt BK2.out)).trans BK2.out); have HB3 := Lib.hid (HB2.out.trans (hb.mono HB2.out.size)); clear hb))
        go_ret
        exact ⟨by simp, HB3.out⟩
      | true =>
        rw [t1] at C1
        clear t1
        cases t2 : Sp.exported [] M.f5 with
        | false =>
          rw [t2] at C2
          go_enter Tryz.func37, Tryz.ntmps37
          go_wp2_with (first | ((go_at_call 61); (with_reducible refine (CF.out _ HB0.out).mono ?_); rintro e w1 ⟨rfl, hb⟩; have BK1 := Lib.hid ((hb.block w.heap.size (blk_lt BK0.out)).trans BK0.out); have HB1 := Lib.hid (HB0.out.trans (hb.mono HB0.out.size)); have d0 : w1.cell? ⟨w.heap.size, 0, none⟩ = some (.slice A0 M.f0.length c0) := (blk_cell BK1.out 0).trans rfl; clear hb) | ((go_at_call 62); (with_reducible refine (C0.out _ HB1.out).mono ?_); rintro e w2 ⟨rfl, hb⟩; have BK2 := Lib.hid ((hb.block w.heap.size (blk_lt BK1.out)).trans BK1.out); have HB2 := Lib.hid (HB1.out.trans (hb.mono HB1.out.size)); have d1 : w2.cell? ⟨w.heap.size, 1, none⟩ = some (.slice A1 M.f1.length c1) := (blk_cell BK2.out 1).trans rfl; clear hb) | ((go_at_call 64); (with_reducible refine (C1.out _ HB2.out).mono ?_); rintro e w3 ⟨rfl, hb⟩; have BK3 := Lib.hid ((hb.block w.heap.size (blk_lt BK2.out)).trans BK2.out); have HB3 := Lib.hid (HB2.out.trans (hb.mono HB2.out.size)); have d2 : w3.cell? ⟨w.heap.size, 5, none⟩ = some (.slice A5 M.f5.length c5) := (blk_cell BK3.out 5).trans rfl; clear hb) | ((go_at_call 68); (with_reducible refine (C2.out _ HB3.out hl5).mono ?_); rintro e w4 ⟨rfl, hb⟩; have BK4 := Lib.hid ((hb.block w.heap.size (blk_lt BK3.out)).trans BK3.out); have HB4 := Lib.hid (HB3.out.trans (hb.mono HB3.out.size)); clear hb))
          go_ret
          exact ⟨by simp, HB4.out⟩
        | true =>
          rw [t2] at C2
          clear t2
          cases t3 : M.f7.all Sp.custom with
          | false =>
            rw [t3] at C3
            go_enter Tryz.func37, Tryz.ntmps37
            go_wp2_with (first | ((go_at_call 61); (with_reducible refine (CF.out _ HB0.out).mono ?_); rintro e w1 ⟨rfl, hb⟩; have BK1 := Lib.hid ((hb.block w.heap.size (blk_lt BK0.out)).trans BK0.out); have HB1 := Lib.hid (HB0.out.trans (hb.mono HB0.out.size)); have d0 : w1.cell? ⟨w.heap.size, 0, none⟩ = some (.slice A0 M.f0.length c0) := (blk_cell BK1.out 0).trans rfl; clear hb) | ((go_at_call 62); (with_reducible refine (C0.out _ HB1.out).mono ?_); rintro e w2 ⟨rfl, hb⟩; have BK2 := Lib.hid ((hb.block w.heap.size (blk_lt BK1.out)).trans BK1.out); have HB2 := Lib.hid (HB1.out.trans (hb.mono HB1.out.size)); have d1 : w2.cell? ⟨w.heap.size, 1, none⟩ = some (.slice A1 M.f1.length c1) := (blk_cell BK2.out 1).trans rfl; clear hb) | ((go_at_call 64); (with_reducible refine (C1.out _ HB2.out).mono ?_); rintro e w3 ⟨rfl, hb⟩; have BK3 := Lib.hid ((hb.block w.heap.size (blk_lt BK2.out)).trans BK2.out); have HB3 := Lib.hid (HB2.out.trans (hb.mono HB2.out.size)); have d2 : w3.cell? ⟨w.heap.size, 5, none⟩ = some (.slice A5 M.f5.length c5) := (blk_cell BK3.out 5).trans rfl; clear hb) | ((go_at_call 68); (with_reducible refine (C2.out _ HB3.out hl5).mono ?_); rintro e w4 ⟨rfl, hb⟩; have BK4 := Lib.hid ((hb.block w.heap.size (blk_lt BK3.out)).trans BK3.out); have HB4 := Lib.hid (HB3.out.trans (hb.mono HB3.out.size)); have d3 : w4.cell? ⟨w.heap.size, 7, none⟩ = some (.slice A7 M.f7.length c7) := (blk_cell BK4.out 7).trans rfl; clear hb) | ((go_at_call 69); (with_reducible refine (C3.out _ HB4.out).mono ?_); rintro e w5 ⟨rfl, hb⟩; have BK5 := Lib.hid ((hb.block w.heap.size (blk_lt BK4.out)).trans BK4.out); have HB5 := Lib.hid (HB4.out.trans (hb.mono HB4.out.size)); clear hb))
            go_ret
            exact ⟨by simp, HB5.out⟩
          | true =>
            rw [t3] at C3
            clear t3
            cases t4 : M.f2.all Sp.coded with
            | false =>
              rw [t4] at C4
              go_enter Tryz.func37, Tryz.ntmps37
              go_wp2_with (first | ((go_at_call 61); (with_reducible refine (CF.out _ HB0.out).mono ?_); rintro e w1 ⟨rfl, hb⟩; have BK1 := Lib.hid ((hb.block w.heap.size (blk_lt BK0.out)).trans BK0.out); have HB1 := Lib.hid (HB0.out.trans (hb.mono HB0.out.size)); have d0 : w1.cell? ⟨w.heap.size, 0, none⟩ = some (.slice A0 M.f0.length c0) := (blk_cell BK1.out 0).trans rfl; clear hb) | ((go_at_call 62); (with_reducible refine (C0.out _ HB1.out).mono ?_); rintro e w2 ⟨rfl, hb⟩; have BK2 := Lib.hid ((hb.block w.heap.size (blk_lt BK1.out)).trans BK1.out); have HB2 := Lib.hid (HB1.out.trans (hb.mono HB1.out.size)); have d1 : w2.cell? ⟨w.heap.size, 1, none⟩ = some (.slice A1 M.f1.length c1) := (blk_cell BK2.out 1).trans rfl; clear hb) | ((go_at_call 64); (with_reducible refine (C1.out _ HB2.out).mono ?_); rintro e w3 ⟨rfl, hb⟩; have BK3 := Lib.hid ((hb.block w.heap.size (blk_lt BK2.out)).trans BK2.out); have HB3 := Lib.hid (HB2.out.trans (hb.mono HB2.out.size)); have d2 : w3.cell? ⟨w.heap.size, 5, none⟩ = some (.slice A5 M.f5.length c5) := (blk_cell BK3.out 5).trans rfl; clear hb) | ((go_at_call 68); (with_reducible refine (C2.out _ HB3.out hl5).mono ?_); rintro e w4 ⟨rfl, hb⟩; have BK4 := Lib.hid ((hb.block w.heap.size (blk_lt BK3.out)).trans BK3.out); have HB4 := Lib.hid (HB3.out.trans (hb.mono HB3.out.size)); have d3 : w4.cell? ⟨w.heap.size, 7, none⟩ = some (.slice A7 M.f7.length c7) := (blk_cell BK4.out 7).trans rfl; clear hb) | ((go_at_call 69); (with_reducible refine (C3.out _ HB4.out).mono ?_); rintro e w5 ⟨rfl, hb⟩; have BK5 := Lib.hid ((hb.block w.heap.size (blk_lt BK4.out)).trans BK4.out); have HB5 := Lib.hid (HB4.out.trans (hb.mono HB4.out.size)); have d4 : w5.cell? ⟨w.heap.size, 2, none⟩ = some (.slice A2 M.f2.length c2) := (blk_cell BK5.out 2).trans rfl; clear hb) | ((go_at_call 71); (with_reducible refine (C4.out _ HB5.out).mono ?_); rintro e w6 ⟨rfl, hb⟩; have BK6 := Lib.hid ((hb.block w.heap.size (blk_lt BK5.out)).trans BK5.out); have HB6 := Lib.hid (HB5.out.trans (hb.mono HB5.out.size)); clear hb))
              go_ret
              exact ⟨by simp, HB6.out⟩
            | true =>
              rw [t4] at C4
              clear t4
              cases t5 : M.f3.all Sp.memory with
              | false =>
                rw [t5] at C5
                go_enter Tryz.func37, Tryz.ntmps37
                go_wp2_with (first | ((go_at_call 61); (with_reducible refine (CF.out _ HB0.out).mono ?_); rintro e w1 ⟨rfl, hb⟩; have BK1 := Lib.hid ((hb.block w.heap.size (blk_lt BK0.out)).trans BK0.out); have HB1 := Lib.hid (HB0.out.trans (hb.mono HB0.out.size)); have d0 : w1.cell? ⟨w.heap.size, 0, none⟩ = some (.slice A0 M.f0.length c0) := (blk_cell BK1.out 0).trans rfl; clear hb) | ((go_at_call 62); (with_reducible refine (C0.out _ HB1.out).mono ?_); rintro e w2 ⟨rfl, hb⟩; have BK2 := Lib.hid ((hb.block w.heap.size (blk_lt BK1.out)).trans BK1.out); have HB2 := Lib.hid (HB1.out.trans (hb.mono HB1.out.size)); have d1 : w2.cell? ⟨w.heap.size, 1, none⟩ = some (.slice A1 M.f1.length c1) := (blk_cell BK2.out 1).trans rfl; clear hb) | ((go_at_call 64); (with_reducible refine (C1.out _ HB2.out).mono ?_); rintro e w3 ⟨rfl, hb⟩; have BK3 := Lib.hid ((hb.block w.heap.size (blk_lt BK2.out)).trans BK2.out); have HB3 := Lib.hid (HB2.out.trans (hb.mono HB2.out.size)); have d2 : w3.cell? ⟨w.heap.size, 5, none⟩ = some (.slice A5 M.f5.length c5) := (blk_cell BK3.out 5).trans rfl; clear hb) | ((go_at_call 68); (with_reducible refine (C2.out _ HB3.out hl5).mono ?_); rintro e w4 ⟨rfl, hb⟩; have BK4 := Lib.hid ((hb.block w.heap.size (blk_lt BK3.out)).trans BK3.out); have HB4 := Lib.hid (HB3.out.trans (hb.mono HB3.out.size)); have d3 : w4.cell? ⟨w.heap.size, 7, none⟩ = some (.slice A7 M.f7.length c7) := (blk_cell BK4.out 7).trans rfl; clear hb) | ((go_at_call 69); (with_reducible refine (C3.out _ HB4.out).mono ?_); rintro e w5 ⟨rfl, hb⟩; have BK5 := Lib.hid ((hb.block w.heap.size (blk_lt BK4.out)).trans BK4.out); have HB5 := Lib.hid (HB4.out.trans (hb.mono HB4.out.size)); have d4 : w5.cell? ⟨w.heap.size, 2, none⟩ = some (.slice A2 M.f2.length c2) := (blk_cell BK5.out 2).trans rfl; clear hb) | ((go_at_call 71); (with_reducible refine (C4.out _ HB5.out).mono ?_); rintro e w6 ⟨rfl, hb⟩; have BK6 := Lib.hid ((hb.block w.heap.size (blk_lt BK5.out)).trans BK5.out); have HB6 := Lib.hid (HB5.out.trans (hb.mono HB5.out.size)); have d5 : w6.cell? ⟨w.heap.size, 3, none⟩ = some (.slice A3 M.f3.length c3) := (blk_cell BK6.out 3).trans rfl; clear hb) | ((go_at_call 73); (with_reducible refine (C5.out _ HB6.out).mono ?_); rintro e w7 ⟨rfl, hb⟩; have BK7 := Lib.hid ((hb.block w.heap.size (blk_lt BK6.out)).trans BK6.out); have HB7 := Lib.hid (HB6.out.trans (hb.mono HB6.out.size)); clear hb))
                go_ret
                exact ⟨by simp, HB7.out⟩
              | true =>
                rw [t5] at C5
                clear t5
                cases t6 : M.f4.all Sp.globalOk with
                | false =>
                  rw [t6] at C6
                  go_enter Tryz.func37, Tryz.ntmps37
                  go_wp2_with (first | ((go_at_call 61); (with_reducible refine (CF.out _ HB0.out).mono ?_); rintro e w1 ⟨rfl, hb⟩; have BK1 := Lib.hid ((hb.block w.heap.size (blk_lt BK0.out)).trans BK0.out); have HB1 := Lib.hid (HB0.out.trans (hb.mono HB0.out.size)); have d0 : w1.cell? ⟨w.heap.size, 0, none⟩ = some (.slice A0 M.f0.length c0) := (blk_cell BK1.out 0).trans rfl; clear hb) | ((go_at_call 62); (with_reducible refine (C0.out _ HB1.out).mono ?_); rintro e w2 ⟨rfl, hb⟩; have BK2 := Lib.hid ((hb.block w.heap.size (blk_lt BK1.out)).trans BK1.out); have HB2 := Lib.hid (HB1.out.trans (hb.mono HB1.out.size)); have d1 : w2.cell? ⟨w.heap.size, 1, none⟩ = some (.slice A1 M.f1.length c1) := (blk_cell BK2.out 1).trans rfl; clear hb) | ((go_at_call 64); (with_reducible refine (C1.out _ HB2.out).mono ?_); rintro e w3 ⟨rfl, hb⟩; have BK3 := Lib.hid ((hb.block w.heap.size (blk_lt BK2.out)).trans BK2.out); have HB3 := Lib.hid (HB2.out.trans (hb.mono HB2.out.size)); have d2 : w3.cell? ⟨w.heap.size, 5, none⟩ = some (.slice A5 M.f5.length c5) := (blk_cell BK3.out 5).trans rfl; clear hb) | ((go_at_call 68); (with_reducible refine (C2.out _ HB3.out hl5).mono ?_); rintro e w4 ⟨rfl, hb⟩; have BK4 := Lib.hid ((hb.block w.heap.size (blk_lt BK3.out)).trans BK3.out); have HB4 := Lib.hid (HB3.out.trans (hb.mono HB3.out.size)); have d3 : w4.cell? ⟨w.heap.size, 7, none⟩ = some (.slice A7 M.f7.length c7) := (blk_cell BK4.out 7).trans rfl; clear hb) | ((go_at_call 69); (with_reducible refine (C3.out _ HB4.out).mono ?_); rintro e w5 ⟨rfl, hb⟩; have BK5 := Lib.hid ((hb.block w.heap.size (blk_lt BK4.out)).trans BK4.out); have HB5 := Lib.hid (HB4.out.trans (hb.mono HB4.out.size)); have d4 : w5.cell? ⟨w.heap.size, 2, none⟩ = some (.slice A2 M.f2.length c2) := (blk_cell BK5.out 2).trans rfl; clear hb) | ((go_at_call 71); (with_reducible refine (C4.out _ HB5.out).mono ?_); rintro e w6 ⟨rfl, hb⟩; have BK6 := Lib.hid ((hb.block w.heap.size (blk_lt BK5.out)).trans BK5.out); have HB6 := Lib.hid (HB5.out.trans (hb.mono HB5.out.size)); have d5 : w6.cell? ⟨w.heap.size, 3, none⟩ = some (.slice A3 M.f3.length c3) := (blk_cell BK6.out 3).trans rfl; clear hb) | ((go_at_call 73); (with_reducible refine (C5.out _ HB6.out).mono ?_); rintro e w7 ⟨rfl, hb⟩; have BK7 := Lib.hid ((hb.block w.heap.size (blk_lt BK6.out)).trans BK6.out); have HB7 := Lib.hid (HB6.out.trans (hb.mono HB6.out.size)); have d6 : w7.cell? ⟨w.heap.size, 4, none⟩ = some (.slice A4 M.f4.length c4) := (blk_cell BK7.out 4).trans rfl; clear hb) | ((go_at_call 75); (with_reducible refine (C6.out _ HB7.out).mono ?_); rintro e w8 ⟨rfl, hb⟩; have BK8 := Lib.hid ((hb.block w.heap.size (blk_lt BK7.out)).trans BK7.out); have HB8 := Lib.hid (HB7.out.trans (hb.mono HB7.out.size)); clear hb))
                  go_ret
                  exact ⟨by simp, HB8.out⟩
                | true =>
                  rw [t6] at C6
                  clear t6
                  cases t7 : M.f6.all Sp.laid with
                  | false =>
                    rw [t7] at C7
                    go_enter Tryz.func37, Tryz.ntmps37
                    go_wp2_with (first | ((go_at_call 61); (with_reducible refine (CF.out _ HB0.out).mono ?_); rintro e w1 ⟨rfl, hb⟩; have BK1 := Lib.hid ((hb.block w.heap.size (blk_lt BK0.out)).trans BK0.out); have HB1 := Lib.hid (HB0.out.trans (hb.mono HB0.out.size)); have d0 : w1.cell? ⟨w.heap.size, 0, none⟩ = some (.slice A0 M.f0.length c0) := (blk_cell BK1.out 0).trans rfl; clear hb) | ((go_at_call 62); (with_reducible refine (C0.out _ HB1.out).mono ?_); rintro e w2 ⟨rfl, hb⟩; have BK2 := Lib.hid ((hb.block w.heap.size (blk_lt BK1.out)).trans BK1.out); have HB2 := Lib.hid (HB1.out.trans (hb.mono HB1.out.size)); have d1 : w2.cell? ⟨w.heap.size, 1, none⟩ = some (.slice A1 M.f1.length c1) := (blk_cell BK2.out 1).trans rfl; clear hb) | ((go_at_call 64); (with_reducible refine (C1.out _ HB2.out).mono ?_); rintro e w3 ⟨rfl, hb⟩; have BK3 := Lib.hid ((hb.block w.heap.size (blk_lt BK2.out)).trans BK2.out); have HB3 := Lib.hid (HB2.out.trans (hb.mono HB2.out.size)); have d2 : w3.cell? ⟨w.heap.size, 5, none⟩ = some (.slice A5 M.f5.length c5) := (blk_cell BK3.out 5).trans rfl; clear hb) | ((go_at_call 68); (with_reducible refine (C2.out _ HB3.out hl5).mono ?_); rintro e w4 ⟨rfl, hb⟩; have BK4 := Lib.hid ((hb.block w.heap.size (blk_lt BK3.out)).trans BK3.out); have HB4 := Lib.hid (HB3.out.trans (hb.mono HB3.out.size)); have d3 : w4.cell? ⟨w.heap.size, 7, none⟩ = some (.slice A7 M.f7.length c7) := (blk_cell BK4.out 7).trans rfl; clear hb) | ((go_at_call 69); (with_reducible refine (C3.out _ HB4.out).mono ?_); rintro e w5 ⟨rfl, hb⟩; have BK5 := Lib.hid ((hb.block w.heap.size (blk_lt BK4.out)).trans BK4.out); have HB5 := Lib.hid (HB4.out.trans (hb.mono HB4.out.size)); have d4 : w5.cell? ⟨w.heap.size, 2, none⟩ = some (.slice A2 M.f2.length c2) := (blk_cell BK5.out 2).trans rfl; clear hb) | ((go_at_call 71); (with_reducible refine (C4.out _ HB5.out).mono ?_); rintro e w6 ⟨rfl, hb⟩; have BK6 := Lib.hid ((hb.block w.heap.size (blk_lt BK5.out)).trans BK5.out); have HB6 := Lib.hid (HB5.out.trans (hb.mono HB5.out.size)); have d5 : w6.cell? ⟨w.heap.size, 3, none⟩ = some (.slice A3 M.f3.length c3) := (blk_cell BK6.out 3).trans rfl; clear hb) | ((go_at_call 73); (with_reducible refine (C5.out _ HB6.out).mono ?_); rintro e w7 ⟨rfl, hb⟩; have BK7 := Lib.hid ((hb.block w.heap.size (blk_lt BK6.out)).trans BK6.out); have HB7 := Lib.hid (HB6.out.trans (hb.mono HB6.out.size)); have d6 : w7.cell? ⟨w.heap.size, 4, none⟩ = some (.slice A4 M.f4.length c4) := (blk_cell BK7.out 4).trans rfl; clear hb) | ((go_at_call 75); (with_reducible refine (C6.out _ HB7.out).mono ?_); rintro e w8 ⟨rfl, hb⟩; have BK8 := Lib.hid ((hb.block w.heap.size (blk_lt BK7.out)).trans BK7.out); have HB8 := Lib.hid (HB7.out.trans (hb.mono HB7.out.size)); have d7 : w8.cell? ⟨w.heap.size, 6, none⟩ = some (.slice A6 M.f6.length c6) := (blk_cell BK8.out 6).trans rfl; clear hb) | ((go_at_call 78); (with_reducible refine (C7.out _ HB8.out).mono ?_); rintro e w9 ⟨rfl, hb⟩; have BK9 := Lib.hid ((hb.block w.heap.size (blk_lt BK8.out)).trans BK8.out); have HB9 := Lib.hid (HB8.out.trans (hb.mono HB8.out.size)); clear hb))
                    go_ret
                    exact ⟨by simp, HB9.out⟩
                  | true =>
                    rw [t7] at C7
                    clear t7
                    go_enter Tryz.func37, Tryz.ntmps37
                    go_wp2_with (first | ((go_at_call 61); (with_reducible refine (CF.out _ HB0.out).mono ?_); rintro e w1 ⟨rfl, hb⟩; have BK1 := Lib.hid ((hb.block w.heap.size (blk_lt BK0.out)).trans BK0.out); have HB1 := Lib.hid (HB0.out.trans (hb.mono HB0.out.size)); have d0 : w1.cell? ⟨w.heap.size, 0, none⟩ = some (.slice A0 M.f0.length c0) := (blk_cell BK1.out 0).trans rfl; clear hb) | ((go_at_call 62); (with_reducible refine (C0.out _ HB1.out).mono ?_); rintro e w2 ⟨rfl, hb⟩; have BK2 := Lib.hid ((hb.block w.heap.size (blk_lt BK1.out)).trans BK1.out); have HB2 := Lib.hid (HB1.out.trans (hb.mono HB1.out.size)); have d1 : w2.cell? ⟨w.heap.size, 1, none⟩ = some (.slice A1 M.f1.length c1) := (blk_cell BK2.out 1).trans rfl; clear hb) | ((go_at_call 64); (with_reducible refine (C1.out _ HB2.out).mono ?_); rintro e w3 ⟨rfl, hb⟩; have BK3 := Lib.hid ((hb.block w.heap.size (blk_lt BK2.out)).trans BK2.out); have HB3 := Lib.hid (HB2.out.trans (hb.mono HB2.out.size)); have d2 : w3.cell? ⟨w.heap.size, 5, none⟩ = some (.slice A5 M.f5.length c5) := (blk_cell BK3.out 5).trans rfl; clear hb) | ((go_at_call 68); (with_reducible refine (C2.out _ HB3.out hl5).mono ?_); rintro e w4 ⟨rfl, hb⟩; have BK4 := Lib.hid ((hb.block w.heap.size (blk_lt BK3.out)).trans BK3.out); have HB4 := Lib.hid (HB3.out.trans (hb.mono HB3.out.size)); have d3 : w4.cell? ⟨w.heap.size, 7, none⟩ = some (.slice A7 M.f7.length c7) := (blk_cell BK4.out 7).trans rfl; clear hb) | ((go_at_call 69); (with_reducible refine (C3.out _ HB4.out).mono ?_); rintro e w5 ⟨rfl, hb⟩; have BK5 := Lib.hid ((hb.block w.heap.size (blk_lt BK4.out)).trans BK4.out); have HB5 := Lib.hid (HB4.out.trans (hb.mono HB4.out.size)); have d4 : w5.cell? ⟨w.heap.size, 2, none⟩ = some (.slice A2 M.f2.length c2) := (blk_cell BK5.out 2).trans rfl; clear hb) | ((go_at_call 71); (with_reducible refine (C4.out _ HB5.out).mono ?_); rintro e w6 ⟨rfl, hb⟩; have BK6 := Lib.hid ((hb.block w.heap.size (blk_lt BK5.out)).trans BK5.out); have HB6 := Lib.hid (HB5.out.trans (hb.mono HB5.out.size)); have d5 : w6.cell? ⟨w.heap.size, 3, none⟩ = some (.slice A3 M.f3.length c3) := (blk_cell BK6.out 3).trans rfl; clear hb) | ((go_at_call 73); (with_reducible refine (C5.out _ HB6.out).mono ?_); rintro e w7 ⟨rfl, hb⟩; have BK7 := Lib.hid ((hb.block w.heap.size (blk_lt BK6.out)).trans BK6.out); have HB7 := Lib.hid (HB6.out.trans (hb.mono HB6.out.size)); have d6 : w7.cell? ⟨w.heap.size, 4, none⟩ = some (.slice A4 M.f4.length c4) := (blk_cell BK7.out 4).trans rfl; clear hb) | ((go_at_call 75); (with_reducible refine (C6.out _ HB7.out).mono ?_); rintro e w8 ⟨rfl, hb⟩; have BK8 := Lib.hid ((hb.block w.heap.size (blk_lt BK7.out)).trans BK7.out); have HB8 := Lib.hid (HB7.out.trans (hb.mono HB7.out.size)); have d7 : w8.cell? ⟨w.heap.size, 6, none⟩ = some (.slice A6 M.f6.length c6) := (blk_cell BK8.out 6).trans rfl; clear hb) | ((go_at_call 78); (with_reducible refine (C7.out _ HB8.out).mono ?_); rintro e w9 ⟨rfl, hb⟩; have BK9 := Lib.hid ((hb.block w.heap.size (blk_lt BK8.out)).trans BK8.out); have HB9 := Lib.hid (HB8.out.trans (hb.mono HB8.out.size)); clear hb))
                    go_ret
                    exact ⟨by simp, HB9.out⟩
end Go.Proofs.YthehihjcpiadgaaGreat
end
section
namespace Go.Proofs.YthehihjcpiadgaaGreat
open Go.Shelf
def sortSpan_ren : Go.Shelf.Ren := ⟨fun | 6 => 81 | 15 => 139 | 14 => 138 | 28 => 190 | 29 => 191 | 20 => 182 | 21 => 183 | 22 => 184 | 23 => 185 | 24 => 186 | 25 => 187 | 26 => 188 | 27 => 189 | 46 => 214 | 47 => 215 | 48 => 216 | 49 => 217 | 50 => 218 | 57 => 223 | n => n, fun | 22 => 101 | 24 => 151 | 25 => 152 | 3 => 3 | 39 => 167 | 0 => 0 | 53 => 209 | 55 => 22 | 4 => 4 | 46 => 203 | 45 => 202 | 50 => 176 | 5 => 5 | 9 => 9 | 66 => 221 | 70 => 225 | 76 => 232 | 77 => 233 | n => n, fun | n => n⟩
theorem sortSpan : Go.Proofs.SlLaysF0.n6 Tryz.prog sortSpan_ren := {
  mixed := by kernel_rfl
  f6 := ⟨Tryz.f81.name, by decide, Tryz.func81.trans (congrArg some (by kernel_rfl))⟩
  f14 := ⟨Tryz.f138.name, by decide, Tryz.func138.trans (congrArg some (by kernel_rfl))⟩
  f15 := Tryz.func139.trans (congrArg some (by kernel_rfl))
  f20 := ⟨Tryz.f182.name, by decide, Tryz.func182.trans (congrArg some (by kernel_rfl))⟩
  f21 := ⟨Tryz.f183.name, by decide, Tryz.func183.trans (congrArg some (by kernel_rfl))⟩
  f22 := ⟨Tryz.f184.name, by decide, Tryz.func184.trans (congrArg some (by kernel_rfl))⟩
  f23 := ⟨Tryz.f185.name, by decide, Tryz.func185.trans (congrArg some (by kernel_rfl))⟩
  f24 := ⟨Tryz.f186.name, by decide, Tryz.func186.trans (congrArg some (by kernel_rfl))⟩
  f25 := ⟨Tryz.f187.name, by decide, Tryz.func187.trans (congrArg some (by kernel_rfl))⟩
  f26 := ⟨Tryz.f188.name, by decide, Tryz.func188.trans (congrArg some (by kernel_rfl))⟩
  f27 := ⟨Tryz.f189.name, by decide, Tryz.func189.trans (congrArg some (by kernel_rfl))⟩
  f28 := Tryz.func190.trans (congrArg some (by kernel_rfl))
  f29 := Tryz.func191.trans (congrArg some (by kernel_rfl))
  f46 := ⟨Tryz.f214.name, by decide, Tryz.func214.trans (congrArg some (by kernel_rfl))⟩
  f47 := Tryz.func215.trans (congrArg some (by kernel_rfl))
  f48 := Tryz.func216.trans (congrArg some (by kernel_rfl))
  f49 := ⟨Tryz.f217.name, by decide, Tryz.func217.trans (congrArg some (by kernel_rfl))⟩
  f50 := ⟨Tryz.f218.name, by decide, Tryz.func218.trans (congrArg some (by kernel_rfl))⟩
  f57 := ⟨Tryz.f223.name, by decide, Tryz.func223.trans (congrArg some (by kernel_rfl))⟩
  t0 := Tryz.underlying0
  a0 := Tryz.isAgg0
  z0 := Tryz.sizeOf0
  v0 := Tryz.zeroValue0
  t3 := Tryz.underlying3
  a3 := Tryz.isAgg3
  z3 := Tryz.sizeOf3
  v3 := Tryz.zeroValue3
  t4 := Tryz.underlying4
  a4 := Tryz.isAgg4
  z4 := Tryz.sizeOf4
  v4 := Tryz.zeroValue4
  t5 := Tryz.underlying5
  a5 := Tryz.isAgg5
  z5 := Tryz.sizeOf5
  v5 := Tryz.zeroValue5
  t9 := Tryz.underlying9
  a9 := Tryz.isAgg9
  z9 := Tryz.sizeOf9
  v9 := Tryz.zeroValue9
  t22 := Tryz.underlying101
  a22 := Tryz.isAgg101
  z22 := Tryz.sizeOf101
  v22 := Tryz.zeroValue101
  t25 := Tryz.underlying152
  a25 := Tryz.isAgg152
  z25 := Tryz.sizeOf152
  v25 := Tryz.zeroValue152
  t39 := Tryz.underlying167
  a39 := Tryz.isAgg167
  z39 := Tryz.sizeOf167
  v39 := Tryz.zeroValue167
  t45 := Tryz.underlying202
  a45 := Tryz.isAgg202
  z45 := Tryz.sizeOf202
  v45 := Tryz.zeroValue202
  t46 := Tryz.underlying203
  a46 := Tryz.isAgg203
  z46 := Tryz.sizeOf203
  v46 := Tryz.zeroValue203
  t50 := Tryz.underlying176
  a50 := Tryz.isAgg176
  z50 := Tryz.sizeOf176
  v50 := Tryz.zeroValue176
  t53 := Tryz.underlying209
  a53 := Tryz.isAgg209
  z53 := Tryz.sizeOf209
  v53 := Tryz.zeroValue209
  t55 := Tryz.underlying22
  a55 := Tryz.isAgg22
  z55 := Tryz.sizeOf22
  v55 := Tryz.zeroValue22
  t66 := Tryz.underlying221
  a66 := Tryz.isAgg221
  z66 := Tryz.sizeOf221
  v66 := Tryz.zeroValue221
  t70 := Tryz.underlying225
  a70 := Tryz.isAgg225
  z70 := Tryz.sizeOf225
  v70 := Tryz.zeroValue225
  t76 := Tryz.underlying232
  a76 := Tryz.isAgg232
  z76 := Tryz.sizeOf232
  v76 := Tryz.zeroValue232
  t77 := Tryz.underlying233
  a77 := Tryz.isAgg233
  z77 := Tryz.sizeOf233
  v77 := Tryz.zeroValue233 }
end Go.Proofs.YthehihjcpiadgaaGreat
end
section
namespace Go.Proofs.YthehihjcpiadgaaGreat
open Go.RowKit Go.Proofs.YthehihjcpiadgaaGreatW.PrintWords Go.Shelf Go.Sort Go.Lib
set_option linter.unusedSimpArgs false
set_option linter.unusedVariables false
instance : Inhabited SSpan := ⟨zSpan⟩
def encSpan (x : SSpan) : List Value := [.int .i64 x.f0, .int .i64 x.f1, .int .i64 x.f2]
def cmpI (x y : Int) : Int := if x < y then -1 else if y < x then 1 else 0
theorem cmp_isNaN (x : Int) (w : World) : Calls Tryz.prog 140 #[.int .i64 x] w fun e w' => e = .returned (.bool false) ∧ w = w' := by
  have h : (x != x) = false := by simp
  go_enter Tryz.func140, Tryz.ntmps140
  go_wp2
  go_ret
  first | exact ⟨rfl, rfl⟩ | exact ⟨by simp, rfl⟩
theorem cmp_Compare (x y : Int) (w : World) : Calls Tryz.prog 83 #[.int .i64 x, .int .i64 y] w fun e w' => e = .returned (.int .i64 (cmpI x y)) ∧ w = w' := by
  have H := Lib.hid (fun x w => cmp_isNaN x w)
  unfold cmpI
  go_enter Tryz.func83, Tryz.ntmps83
  go_wp2_with (first | (go_at_call 140; refine (H.out _ _).mono ?_; rintro e w' ⟨rfl, rfl⟩))
  all_goals
    go_ret
    refine ⟨congrArg (fun b => Ending.returned (.int .i64 b)) ?_, rfl⟩
    (repeat' split) <;> first | rfl | omega
theorem ofLess (x y : SSpan) (W : World) : Calls Tryz.prog 82 #[.agg (encSpan x).toArray, .agg (encSpan y).toArray] W fun e w' => e = .returned (.int .i64 (cmpI x.f0 y.f0)) ∧ ∃ q os', w' = grow (W.drewN q) os' := by
  have H := Lib.hid (fun W' => cmp_Compare x.f0 y.f0 W')
  unfold encSpan
  generalize cmpI x.f0 y.f0 = r at H ⊢
  go_enter Tryz.func82, Tryz.ntmps82
  go_wp2_with (first | (go_at_call 83; refine (H.out _).mono ?_; rintro e w' ⟨rfl, rfl⟩))
  go_ret
  exact ⟨rfl, 0, _, by rw [alloc_eq_grow, alloc_eq_grow, grow_grow]; rfl⟩
theorem ofLess_lays (blk off size : Nat) (w : World) : CmpLays Tryz.prog 82 #[] encSpan 3 (fun x y => cmpI x.f0 y.f0) blk off size w := fun _ _ _ _ x y => ofLess x y _
theorem ltSpan (x y : SSpan) : ltOf (fun x y : SSpan => cmpI x.f0 y.f0) x y = decide (x.f0 < y.f0) := by
  unfold ltOf cmpI
  by_cases h1 : x.f0 < y.f0
  · simp [h1]
  · by_cases h2 : y.f0 < x.f0 <;> simp [h1, h2]
theorem swoSpan : SWO (ltOf fun x y : SSpan => cmpI x.f0 y.f0) where
  irrefl x := by rw [ltSpan]; simp
  trans x y z h1 h2 := by rw [ltSpan] at *; simp at *; omega
  ntrans x y z h1 h2 := by rw [ltSpan] at *; simp at *; omega
theorem holds_spans {w : World} {base blk n cap : Nat} {ok : Nat → Prop} {xs : List SSpan} (h : SpansR w base ok (.slice (some ⟨blk, 0, none⟩) n cap) xs) : HoldsK encSpan 3 w blk 0 xs.toArray := by
  have hn := (Kd.R_reads' h).1
  intro t ht
  rw [size_flatK] at ht
  have hs : xs.toArray.size = xs.length := by simp
  obtain ⟨c, hcl, hM, hcc, hcf⟩ := Kd.R_elem h zSpan ((t / 3 : Nat) : Int) (by omega) (by omega)
  have hc := kSpan_openM hM
  subst hc
  rw [Int.toNat_natCast] at hcc hcf
  rw [get_flatK encSpan 3 _ t ht]
  have e : xs.toArray[t / 3]! = xs.getD (t / 3) zSpan := by
    rw [getElem!_pos _ _ (by omega)]
    simp [List.getD_eq_getElem?_getD, List.getElem?_eq_getElem (show t / 3 < xs.length by omega)]
  rw [e]
  have h3 : kSpan.sz = 3 := rfl
  have hcell := fun j u hu => hcc j u hu
  have hfr := hcf (t % 3)
  rw [Int.toNat_natCast, h3] at *
  have et : t / 3 * 3 + t % 3 = t := by omega
  rw [et] at hfr
  refine ⟨?_, by rw [Nat.zero_add]; exact hfr⟩
  have hlt : t % 3 < 3 := Nat.mod_lt _ (by decide)
  have := hcell (t % 3) ((encSpan (xs.getD (t / 3) zSpan))[t % 3]!) (by
    have : t % 3 = 0 ∨ t % 3 = 1 ∨ t % 3 = 2 := by omega
    rcases this with h | h | h <;> rw [h] <;> rfl)
  rw [et] at this
  rw [Nat.zero_add]
  exact this
theorem grown_sortK {w : World} {g n off : Nat} {os : Array Obj} (d : Array SSpan) : w.grownBy (sortWorldK encSpan 3 w g off n d os) (some g) := by
  refine ⟨rfl, rfl, rfl, size_sortWorldK_c encSpan 3 w g off n d os, fun k hk hne => ?_⟩
  have hkg : k ≠ g := fun e => hne (by rw [e])
  simp [sortWorldK, putRowK, putRow, mapBlock, grow, Sort.ahead, Array.getElem?_append, Array.getElem?_modify, Array.getElem_modify, hk, hkg, Ne.symm hkg]
set_option maxHeartbeats 2000000 in
theorem sort_spans (w : World) (base : Nat) (ok : Nat → Prop) (v : Value) (xs : List SSpan) (h : SpansR w base ok v xs) (hl : xs.length ≤ 1000000) :
    Calls Tryz.prog 81 #[v, .func (.func 82) #[] #[]] w fun e w' => e = .returned (.tuple #[]) ∧ w.grownBy w' v.ownBlock := by
  rcases Nat.eq_zero_or_pos xs.length with h0 | hp
  · obtain ⟨A, c, rfl⟩ := Kd.R_slice h
    rw [h0]
    refine (AnyF.slices_SortFunc_none sortSpan A c (.func (.func 82) #[] #[]) w).mono ?_
    rintro e w' ⟨rfl, rfl⟩
    exact ⟨rfl, World.grownBy.refl _ _⟩
  · obtain ⟨gb, cap, rfl, hb, hlt, -⟩ := Kd.R_form h hp
    have hs : xs.toArray.size = xs.length := by simp
    have hcon := AnyQ.slices_SortFunc sortSpan 3 Tryz.isAgg151 Tryz.sizeOf151 encSpan (fun _ => rfl) (fun x v hv => by simp [encSpan] at hv; rcases hv with rfl | rfl | rfl <;> rfl) (fun x y => cmpI x.f0 y.f0) swoSpan 82 #[] gb 0 cap xs.toArray w (enters_of Tryz.func82 (by kernel_rfl) rfl) (ofLess_lays gb 0 xs.toArray.size w) (holds_spans h) hlt (by rw [hs]; omega)
    rw [hs] at hcon
    refine hcon.mono ?_
    rintro e w' ⟨rfl, d', n, os, -, -, rfl⟩
    exact ⟨rfl, by have := grown_sortK (w := w) (g := gb) (n := n) (off := 0) (os := os) d'; simpa [Value.ownBlock] using this⟩
end Go.Proofs.YthehihjcpiadgaaGreat
end
section
namespace Go.Proofs.YthehihjcpiadgaaGreat
open Go.RowKit Go.Proofs.YthehihjcpiadgaaGreatW.PrintWords
set_option linter.unusedSimpArgs false
set_option linter.unusedVariables false
namespace Sp
def mrun (code : List SInst) : Nat → Option MSt
  | 0 => some ⟨[], [], 0⟩
  | k + 1 => (mrun code k).bind (mstep code k)
/-- Why code's ends don't match; 0: they do. -/
def matchErr (code : List SInst) : Int := if code.length = 0 then 12 else match mrun code code.length with | none => 12 | some s => if 64 < s.deep then 26 else 0
theorem mrun_none {code : List SInst} {k : Nat} (h : mrun code k = none) : ∀ n, k ≤ n → mrun code n = none := by
  intro n hn
  induction n with
  | zero => obtain rfl : k = 0 := by omega
            exact h
  | succ n ih =>
    by_cases hk : k = n + 1
    · rw [← hk]; exact h
    · unfold mrun; rw [ih (by omega)]; rfl
theorem minv_zero (code : List SInst) : MInv code 0 ⟨[], [], 0⟩ := ⟨by simp, by simp, by simp, by simp, fun j h0 h1 => by simp at h1; omega⟩
theorem matchErr_none {code : List SInst} {k : Nat} (hk : k ≤ code.length) (h : mrun code k = none) : matchErr code = 12 := by
  unfold matchErr
  rw [mrun_none h _ hk]
  split <;> rfl
theorem matchErr_some {code : List SInst} {s : MSt} (hp : 0 < code.length) (h : mrun code code.length = some s) : matchErr code = if 64 < s.deep then 26 else 0 := by
  unfold matchErr
  rw [if_neg (by omega), h]
end Sp
/-- A list and a refusal come back; memory was made alone. -/
def OfEnd (n : Int) (w : World) (e : Ending) (w' : World) : Prop := (∃ v, e = .returned (.tuple #[v, .int .i64 n])) ∧ Below w.heap.size w w'
theorem grown_below {w0 w w' : World} {v : Value} (h : Below w0.heap.size w0 w) (hg : w.grownBy w' v.ownBlock) (hv : ∀ k, v.ownBlock = some k → w0.heap.size ≤ k) : Below w0.heap.size w0 w' :=
  h.grown hg h.size (fun k hk => hv k hk)
set_option maxRecDepth 100000 in
set_option maxHeartbeats 4000000 in
theorem match_Of (A : Option Addr) (c : Nat) (code : List SInst) (w : World) (hC : kInst.C w A code.length code) (hl : code.length ≤ 65536) : Calls Tryz.prog 38 #[.slice A code.length c] w (OfEnd (Sp.matchErr code) w) := by
  have HC := Lib.hid hC; clear hC
  by_cases h0 : code.length = 0
  · have e0 : Sp.matchErr code = 12 := by unfold Sp.matchErr; rw [if_pos h0]
    rw [e0, h0]
    go_enter Tryz.func38, Tryz.ntmps38
    go_wp2
    refine bodyPost_ret (v := _) (by simp [results, Tryz.results38, go_sem] <;> rfl) rfl ?_
    exact ⟨⟨_, rfl⟩, below_alloc (Below.refl _ _) _⟩
  · have hz : ((code.length : Int) == 0) = false := beq_eq_false_iff_ne.mpr (by omega)
    go_enter Tryz.func38, Tryz.ntmps38
    go_wp2
    go_loopw [13] (fun i wr => ∃ (k : Nat) (s : Sp.MSt) (vo vd : Value), k ≤ code.length ∧ i = .int .i64 k ∧ Hid (MstAt wr w.heap.size w.heap.size s vo vd) ∧ Hid (Sp.MInv code k s) ∧ Hid (Sp.mrun code k = some s) ∧ Hid (Below w.heap.size w wr)) (fun i _ => code.length - (intOf i).toNat)
    case atStart => exact ⟨0, ⟨[], [], 0⟩, .slice none 0 0, .slice none 0 0, by omega, rfl, Lib.hid ⟨heap_alloc_new w _, Nat.le_refl _, Kd.R_nil _ _ _ _ _, Kd.R_nil _ _ _ _ _⟩, Lib.hid (Sp.minv_zero code), Lib.hid rfl, Lib.hid (below_alloc (Below.refl _ _) _)⟩
    case round =>
      obtain ⟨k, s, vo, vd, hk, rfl, HM, HI, HR, HB⟩ := hrel
      rename_i wr _
      by_cases hlt : k < code.length
      · have HS := Lib.hid (match_step w wr HB.out A c code HC.out k hlt hl w.heap.size s vo vd HM.out HI.out)
        cases hst : Sp.mstep code k s with
        | none =>
          rw [hst] at HS
          have e0 : Sp.matchErr code = 12 := Sp.matchErr_none (k := k + 1) (by omega) (by unfold Sp.mrun; rw [HR.out]; exact hst)
          rw [e0]
          clear hst e0
          go_wp2_with (first | (go_at_call 80; refine HS.out.mono ?_; rintro e w' ⟨rfl, hb, -⟩; have HB2 := Lib.hid hb; clear hb))
          refine bodyPost_ret (v := _) (by simp [results, Tryz.results38, go_sem] <;> rfl) rfl ?_
          exact ⟨⟨_, rfl⟩, HB2.out⟩
        | some s2 =>
          rw [hst] at HS
          have HI2 := Lib.hid (Sp.minv_step hlt HI.out hst)
          have HR2 : Hid (Sp.mrun code (k + 1) = some s2) := Lib.hid (by unfold Sp.mrun; rw [HR.out]; exact hst)
          clear hst
          go_wp2_with (first | (go_at_call 80; refine HS.out.mono ?_; rintro e w' ⟨rfl, hb, hn⟩; have HB2 := Lib.hid hb; have HN := Lib.hid hn; clear hb hn))
          obtain ⟨vo2, vd2, hm2⟩ := HN.out s2 rfl
          go_roundw
          case rel => exact ⟨k + 1, s2, vo2, vd2, by omega, by go_num, Lib.hid hm2, HI2, HR2, HB2⟩
          case measure => simp [intOf]; omega
      · have hkl : k = code.length := by omega
        subst hkl
        have e0 := Lib.hid (Sp.matchErr_some (by omega) HR.out)
        obtain ⟨hg0, hbg, hro, hrd⟩ := HM.out
        have c1 : wr.cell? ⟨w.heap.size, 1, none⟩ = some vd := (blk_cell hg0 1).trans rfl
        have c2 : wr.cell? ⟨w.heap.size, 2, none⟩ = some (.int .i64 s.deep) := (blk_cell hg0 2).trans rfl
        have glt := blk_lt hg0
        have hd2 : s.d.length ≤ 1000000 := by have := HI.out.2.1; omega
        obtain ⟨Q, kd, rfl⟩ := Kd.R_slice hrd
        have HS := Lib.hid (sort_spans wr w.heap.size _ _ s.d hrd hd2)
        have HG := Lib.hid hg0; have HRD := Lib.hid hrd
        clear hg0 hro hrd
        by_cases hdeep : 64 < s.deep
        · have E := Lib.hid (show Sp.matchErr code = 26 from by rw [e0.out, if_pos hdeep])
          go_wp2
          refine bodyPost_ret (v := _) (by simp [results, Tryz.results38, go_sem] <;> rfl) rfl ?_
          exact ⟨⟨_, by rw [E.out]⟩, HB.out⟩
        · have E := Lib.hid (show Sp.matchErr code = 0 from by rw [e0.out, if_neg hdeep])
          go_wp2_with (first | (go_at_call 81; refine HS.out.mono ?_; rintro e w' ⟨rfl, hg⟩; have d1 : w'.cell? ⟨w.heap.size, 1, none⟩ = some (.slice Q s.d.length kd) := hg.cell c1 (Kd.R_away HRD.out (fun k hk => hk.1)); have HG2 := Lib.hid (grown_below HB.out hg (Kd.R_base HRD.out)); clear hg))
          refine bodyPost_ret (v := _) (by simp [results, Tryz.results38, go_sem] <;> rfl) rfl ?_
          exact ⟨⟨_, by rw [E.out]⟩, HG2.out⟩
end Go.Proofs.YthehihjcpiadgaaGreat
end
section
namespace Go.Proofs.YthehihjcpiadgaaGreat
open Go.RowKit Go.Proofs.YthehihjcpiadgaaGreatW.PrintWords
set_option linter.unusedSimpArgs false
set_option linter.unusedVariables false
namespace Sp
/-- The first that is not 0, of so many from one on. -/
def firstFrom (g : Nat → Int) : Nat → Nat → Int
  | 0, _ => 0
  | d + 1, k => if g k = 0 then firstFrom g d (k + 1) else g k
theorem first_step (g : Nat → Int) (n k : Nat) (h : k < n) (e : g k = 0) : firstFrom g (n - k) k = firstFrom g (n - (k + 1)) (k + 1) := by
  obtain ⟨d, hd⟩ : ∃ d, n - k = d + 1 := ⟨n - k - 1, by omega⟩
  rw [hd, show n - (k + 1) = d by omega]
  show (if g k = 0 then firstFrom g d (k + 1) else g k) = _
  rw [if_pos e]
theorem first_here (g : Nat → Int) (n k : Nat) (h : k < n) (e : g k ≠ 0) : firstFrom g (n - k) k = g k := by
  obtain ⟨d, hd⟩ : ∃ d, n - k = d + 1 := ⟨n - k - 1, by omega⟩
  rw [hd]
  show (if g k = 0 then firstFrom g d (k + 1) else g k) = _
  rw [if_neg e]
theorem first_over (g : Nat → Int) (n k : Nat) (h : n ≤ k) : firstFrom g (n - k) k = 0 := by
  rw [show n - k = 0 by omega]; rfl
/-- What a function of a module is made of. -/
def envOf (M : SMod) (j : Nat) : Env :=
  let t := (sigOf M ((M.f1.length : Int) + j)).getD zTy
  ⟨M, t.f0 ++ (rd_TFun M.f2 (j : Int)).f1, t⟩
/-- The first instruction of a function that may not be there, and why. -/
def runOf (M : SMod) (pl : Bool) (j : Nat) : Int × Int := run (envOf M j) pl (rd_TFun M.f2 (j : Int)).f2 0 (begin (envOf M j))
def matchOf (M : SMod) : Int := firstFrom (fun j => matchErr (rd_TFun M.f2 (j : Int)).f2) M.f2.length 0
/-- Why a module may not be, behind its form. -/
def typedErr (M : SMod) (pl : Bool) : Int :=
  if !indices M then 23 else if pl && !plainOk M then 24 else firstFrom (fun j => (runOf M pl j).2) M.f2.length 0
/-- Why a module may not be. -/
def moduleErr (M : SMod) (p : Int) : Int :=
  if p ≠ 1 ∧ p ≠ 2 then 1 else if right M ≠ 0 then right M else if matchOf M ≠ 0 then matchOf M else typedErr M (decide (p = 1))
/-- What is known of a module that can be written. -/
structure RightOk (M : SMod) : Prop where
  n0 : M.f0.length ≤ 64
  n12 : M.f1.length + M.f2.length ≤ 256
  n3 : M.f3.length ≤ 4
  n4 : M.f4.length ≤ 256
  n5 : M.f5.length ≤ 256
  n6 : M.f6.length ≤ 16
  n7 : M.f7.length ≤ 16
  ty : ∀ i : Nat, i < M.f0.length → typed (rd_TTy M.f0 (i : Int)) = true
  im : ∀ i : Nat, i < M.f1.length → imported (rd_TImp M.f1 (i : Int)) = true
  fn : ∀ i : Nat, i < M.f2.length → coded (rd_TFun M.f2 (i : Int)) = true
  gl : ∀ i : Nat, i < M.f4.length → globalOk (rd_TGlob M.f4 (i : Int)) = true
theorem all_rd {α : Type} {p : α → Bool} {xs : List α} (z : α) (h : xs.all p = true) (i : Nat) (hi : i < xs.length) : p (rdOf z xs (i : Int)) = true := by
  rw [List.all_eq_true] at h
  have := h _ (List.getElem_mem hi)
  simpa [rdOf, List.getD_eq_getElem?_getD, hi] using this
theorem right_ok {M : SMod} (h : right M = 0) : RightOk M := by
  unfold right at h
  split at h
  · cases h
  · rename_i hf
    split at h
    · cases h
    · rename_i hn
      have hf2 : full M = false := by simpa using hf
      unfold full at hf2
      have hf3 := of_decide_eq_false hf2
      simp only [Bool.or_eq_true, Bool.not_eq_true', not_or, Bool.not_eq_false] at hn
      obtain ⟨⟨⟨⟨⟨⟨⟨h0, h1⟩, h5⟩, h7⟩, h2⟩, h3⟩, h4⟩, h6⟩ := hn
      exact ⟨by omega, by omega, by omega, by omega, by omega, by omega, by omega, all_rd zTy h0, all_rd zImp h1, all_rd zFun h2, all_rd zGlob h4⟩
theorem coded_len {f : SFun} (h : coded f = true) : f.f2.length ≤ 65536 ∧ f.f1.length ≤ 256 ∧ 0 ≤ f.f0 ∧ f.f0 ≤ 2147483647 ∧ types f.f1 = true ∧ ∀ i : Nat, i < f.f2.length → instOk (rd_TInst f.f2 (i : Int)) = true := by
  unfold coded at h
  simp only [Bool.and_eq_true, decide_eq_true_eq, Bool.not_eq_true'] at h
  obtain ⟨h0, h1, h2, h3, h4⟩ := h
  unfold index at h0
  have h0 := of_decide_eq_true h0
  refine ⟨by omega, by omega, h0.1, h0.2, h2, fun i hi => ?_⟩
  rw [List.any_eq_false] at h4
  have := h4 _ (List.getElem_mem hi)
  simpa [rd_TInst, List.getD_eq_getElem?_getD, hi] using this
theorem typed_len {t : STy} (h : typed t = true) : t.f0.length ≤ 8 ∧ t.f1.length ≤ 8 ∧ types t.f0 = true ∧ types t.f1 = true := by
  unfold typed at h
  simp only [Bool.and_eq_true, decide_eq_true_eq] at h
  exact ⟨by omega, by omega, h.2.2.1, h.2.2.2⟩
end Sp
theorem small_tys {M : SMod} (h : Sp.RightOk M) : SmallTys M.f0 := fun i => by
  by_cases hi : 0 ≤ i ∧ i < M.f0.length
  · obtain ⟨j, rfl⟩ : ∃ j : Nat, i = (j : Int) := ⟨i.toNat, by omega⟩
    have := Sp.typed_len (h.ty j (by omega))
    omega
  · have e : rd_TTy M.f0 i = zTy ∨ i < 0 := by
      by_cases h0 : i < 0
      · exact .inr h0
      · refine .inl ?_
        unfold rd_TTy
        rw [List.getD_eq_getElem?_getD, List.getElem?_eq_none (by omega)]; rfl
    rcases e with e | e
    · rw [e]; exact ⟨by decide, by decide⟩
    · have e2 : rd_TTy M.f0 i = rd_TTy M.f0 ((0 : Nat) : Int) := by
        unfold rd_TTy
        rw [show i.toNat = 0 by omega]; rfl
      rw [e2]
      by_cases hl : 0 < M.f0.length
      · have := Sp.typed_len (h.ty 0 hl)
        omega
      · have e3 : rd_TTy M.f0 ((0 : Nat) : Int) = zTy := by
          unfold rd_TTy
          rw [List.getD_eq_getElem?_getD, List.getElem?_eq_none (by omega)]; rfl
        rw [e3]; exact ⟨by decide, by decide⟩
set_option maxRecDepth 100000 in
set_option maxHeartbeats 2000000 in
theorem check_Module_arg (M : SMod) (cs : List Value) (p : Int) (w : World) (hM : kMod.K w M cs) (h1 : p ≠ 1) (h2 : p ≠ 2) : Calls Tryz.prog 18 #[.agg cs.toArray, .int .i64 p] w (ErrEnd (Sp.moduleErr M p) w) := by
  obtain ⟨A0, c0, A1, c1, A2, c2, A3, c3, A4, c4, A5, c5, A6, c6, A7, c7, rfl, l0, g0, l1, g1, l2, g2, -⟩ := kMod_open hM
  clear g0 g1 g2 hM l0 l1 l2
  rw [show Sp.moduleErr M p = 1 by unfold Sp.moduleErr; rw [if_pos ⟨h1, h2⟩]]
  have q1 : (p != 1) = true := by simpa using h1
  have q2 : (p != 2) = true := by simpa using h2
  clear h1 h2
  go_enter Tryz.func18, Tryz.ntmps18
  go_wp2_with fail
  go_ret
  exact ⟨rfl, below_alloc (Below.refl _ _) _⟩
set_option maxRecDepth 100000 in
set_option maxHeartbeats 8000000 in
theorem check_Module_1 (M : SMod) (cs : List Value) (w : World) (hM : kMod.K w M cs) (n1 : M.f1.length ≤ 140737488355328) (n2 : M.f2.length ≤ 140737488355328) (hsz : ∀ i : Int, (rd_TExp M.f5 i).f0.size ≤ maxLen)
    (hF : Sp.RightOk M → Sp.matchOf M = 0 → Sp.indices M = true → ∀ j : Nat, j < M.f2.length → ∀ W, Below w.heap.size w W → Calls Tryz.prog 21 #[.agg cs.toArray, .int .i64 (j : Int), .int .i64 1] W (FuncEnd (Sp.runOf M true j) W)) :
    Calls Tryz.prog 18 #[.agg cs.toArray, .int .i64 1] w (ErrEnd (Sp.moduleErr M 1) w) := by
  obtain ⟨A0, c0, A1, c1, A2, c2, A3, c3, A4, c4, A5, c5, A6, c6, A7, c7, rfl, l0, g0, l1, g1, l2, g2, -⟩ := kMod_open hM
  have HG2 := Lib.hid g2
  clear g0 g1 g2 l0 l1 l2
  have HM := Lib.hid hM; clear hM
  have HE := Lib.hid (show Sp.moduleErr M 1 = if Sp.right M ≠ 0 then Sp.right M else if Sp.matchOf M ≠ 0 then Sp.matchOf M else Sp.typedErr M true by unfold Sp.moduleErr; rw [if_neg (by decide)]; rfl)
  have BK0 := Lib.hid (show (w.alloc (.cells #[.slice A0 M.f0.length c0, .slice A1 M.f1.length c1, .slice A2 M.f2.length c2, .slice A3 M.f3.length c3, .slice A4 M.f4.length c4, .slice A5 M.f5.length c5, .slice A6 M.f6.length c6, .slice A7 M.f7.length c7] 37)).heap[w.heap.size]? = some (.cells #[.slice A0 M.f0.length c0, .slice A1 M.f1.length c1, .slice A2 M.f2.length c2, .slice A3 M.f3.length c3, .slice A4 M.f4.length c4, .slice A5 M.f5.length c5, .slice A6 M.f6.length c6, .slice A7 M.f7.length c7] 37 (0, 0)) from heap_alloc_new w _)
  have HB0 := Lib.hid (below_alloc (Below.refl w.heap.size w) (.cells #[.slice A0 M.f0.length c0, .slice A1 M.f1.length c1, .slice A2 M.f2.length c2, .slice A3 M.f3.length c3, .slice A4 M.f4.length c4, .slice A5 M.f5.length c5, .slice A6 M.f6.length c6, .slice A7 M.f7.length c7] 37))
  have HR := Lib.hid (fun W (hb : Below w.heap.size w W) => module_Right M _ W (Kd.K_below kMod hb HM.out) n1 n2 hsz)
  have HIX := Lib.hid (fun W (hb : Below w.heap.size w W) (h : Sp.RightOk M) => check_indices M _ W (Kd.K_below kMod hb HM.out) (by have := h.n12; omega) (by have := h.n12; omega) (by have := h.n5; omega) (by have := h.n6; omega) (small_tys h))
  have HPL := Lib.hid (fun W (hb : Below w.heap.size w W) (h : Sp.RightOk M) (hi : Sp.indices M = true) => check_plain_is M _ W (Kd.K_below kMod hb HM.out) hi (by have := h.n5; omega) (by have := h.n6; omega) (by have := h.n0; omega))
  have HF := Lib.hid hF
  clear hF n1 n2 hsz
  obtain ⟨rv, hrv⟩ : ∃ rv, rv = Sp.right M := ⟨_, rfl⟩
  have HRV := Lib.hid hrv
  rw [← hrv] at HR
  clear hrv
  by_cases hr : rv = 0
  · subst hr
    have hk := Sp.right_ok HRV.out.symm
    have hl2 := hk.n12
    have HK := Lib.hid hk; clear hk
    go_enter Tryz.func18, Tryz.ntmps18
    go_wp2_with (first | ((go_at_call 37); (with_reducible refine (HR.out _ HB0.out).mono ?_); rintro e w1 ⟨rfl, hb⟩; have BK1 := Lib.hid ((hb.block w.heap.size (blk_lt BK0.out)).trans BK0.out); have HB1 := Lib.hid (below_then HB0.out HB0.out.size hb); clear hb; have wlt1 := blk_lt BK1.out; have z1_0 := (blk_cell BK1.out 0).trans rfl; have z1_1 := (blk_cell BK1.out 1).trans rfl; have z1_2 := (blk_cell BK1.out 2).trans rfl; have z1_3 := (blk_cell BK1.out 3).trans rfl; have z1_4 := (blk_cell BK1.out 4).trans rfl; have z1_5 := (blk_cell BK1.out 5).trans rfl; have z1_6 := (blk_cell BK1.out 6).trans rfl; have z1_7 := (blk_cell BK1.out 7).trans rfl))
    clear wlt1 z1_0 z1_1 z1_2 z1_3 z1_4 z1_5 z1_6 z1_7
    go_loopw [27] (fun i wr => ∃ k : Nat, k ≤ M.f2.length ∧ i = .int .i64 k ∧ Hid (Sp.matchOf M = Sp.firstFrom (fun j => Sp.matchErr (rd_TFun M.f2 (j : Int)).f2) (M.f2.length - k) k) ∧ Hid (wr.heap[w.heap.size]? = some (.cells #[.slice A0 M.f0.length c0, .slice A1 M.f1.length c1, .slice A2 M.f2.length c2, .slice A3 M.f3.length c3, .slice A4 M.f4.length c4, .slice A5 M.f5.length c5, .slice A6 M.f6.length c6, .slice A7 M.f7.length c7] 37 (0, 0))) ∧ Hid (Below w.heap.size w wr)) (fun i _ => M.f2.length - (intOf i).toNat)
    case atStart => exact ⟨0, by omega, rfl, Lib.hid rfl, BK1, HB1⟩
    case round =>
      clear BK1 HB1
      obtain ⟨k, hk, rfl, HX, BK, HB⟩ := hrel
      rename_i wr _
      have wlt := blk_lt BK.out
      have y0 := (blk_cell BK.out 0).trans rfl
      have y1 := (blk_cell BK.out 1).trans rfl
      have y2 := (blk_cell BK.out 2).trans rfl
      have y3 := (blk_cell BK.out 3).trans rfl
      have y4 := (blk_cell BK.out 4).trans rfl
      have y5 := (blk_cell BK.out 5).trans rfl
      have y6 := (blk_cell BK.out 6).trans rfl
      have y7 := (blk_cell BK.out 7).trans rfl
      by_cases hlt : k < M.f2.length
      · obtain ⟨fd, B2, d2, B3, d3, rfl, e2, e3, e4, -, -, -, q5⟩ := at_TFun (Kd.C_below HG2.out HB.out) (k : Int) (by omega) (by omega)
        rw [Int.toNat_natCast] at e2 e3 e4
        have hc := Sp.coded_len (HK.out.fn k hlt)
        obtain ⟨x, hx⟩ : ∃ x, x = rd_TFun M.f2 (k : Int) := ⟨_, rfl⟩
        rw [← hx] at e2 e3 e4 q5 hc
        have HXX := Lib.hid hx; clear hx
        have HOF := Lib.hid (fun (W : World) (hb : Below wr.heap.size wr W) => match_Of B3 d3 x.f2 W (Kd.C_below q5 hb) hc.1)
        clear q5 hc
        obtain ⟨ev, hev⟩ : ∃ ev, ev = Sp.matchErr x.f2 := ⟨_, rfl⟩
        have HEV := Lib.hid hev
        rw [← hev] at HOF
        clear hev
        by_cases he : ev = 0
        · subst he
          have HS := Lib.hid (Sp.first_step (fun j => Sp.matchErr (rd_TFun M.f2 (j : Int)).f2) M.f2.length k hlt (by rw [← HXX.out]; exact HEV.out.symm))
          go_wp2_with (first | ((go_at_call 38); (with_reducible refine (HOF.out _ (below_alloc (Below.refl _ _) _)).mono ?_); rintro e w2 ⟨⟨v, rfl⟩, hb⟩; have HB2 := Lib.hid hb; clear hb))
          go_roundw
          case rel => exact ⟨k + 1, by omega, by go_num, Lib.hid (HX.out.trans HS.out), Lib.hid ((HB2.out.block _ (blk_lt (blk_alloc BK.out _))).trans (blk_alloc BK.out _)), Lib.hid (below_then (below_alloc HB.out _) (by have := HB.out.size; simp; omega) HB2.out)⟩
          case measure => simp [intOf]; omega
        · have HS := Lib.hid (Sp.first_here (fun j => Sp.matchErr (rd_TFun M.f2 (j : Int)).f2) M.f2.length k hlt (by rw [← HXX.out, ← HEV.out]; exact he))
          have HNE := Lib.hid he
          have g1 : (ev != 0) = true := by simpa using he
          clear he
          go_wp2_with (first | ((go_at_call 38); (with_reducible refine (HOF.out _ (below_alloc (Below.refl _ _) _)).mono ?_); rintro e w2 ⟨⟨v, rfl⟩, hb⟩; have HB2 := Lib.hid hb; clear hb))
          go_ret
          have e1 : Sp.matchOf M = ev := by rw [HX.out, HS.out]; rw [← HXX.out]; exact HEV.out.symm
          refine ⟨?_, below_then (below_alloc HB.out _) (by have := HB.out.size; simp; omega) HB2.out⟩
          rw [HE.out, if_neg (by rw [← HRV.out]; simp), e1, if_pos HNE.out]
          rfl
      · have HMO := Lib.hid (show Sp.matchOf M = 0 from HX.out.trans (Sp.first_over _ _ _ (by omega)))
        have HE2 := Lib.hid (HE.out.trans (show _ = Sp.typedErr M true by rw [if_neg (by rw [← HRV.out]; simp), if_neg (by rw [HMO.out]; simp)]))
        have hge : ¬ ((k : Int) < (M.f2.length : Int)) := by omega
        obtain ⟨iv, hiv⟩ : ∃ iv, iv = Sp.indices M := ⟨_, rfl⟩
        have HIV := Lib.hid hiv
        have HIC := Lib.hid (HIX.out wr HB.out HK.out)
        rw [← hiv] at HIC
        clear hiv HX hlt
        cases iv with
        | false =>
          go_wp2_with (first | ((go_at_call 39); (with_reducible refine HIC.out.mono ?_); rintro e w3 ⟨rfl, hb⟩; have BK3 := Lib.hid ((hb.block w.heap.size (blk_lt BK.out)).trans BK.out); have HB3 := Lib.hid (below_then HB.out HB.out.size hb); clear hb; have wlt3 := blk_lt BK3.out; have z3_0 := (blk_cell BK3.out 0).trans rfl; have z3_1 := (blk_cell BK3.out 1).trans rfl; have z3_2 := (blk_cell BK3.out 2).trans rfl; have z3_3 := (blk_cell BK3.out 3).trans rfl; have z3_4 := (blk_cell BK3.out 4).trans rfl; have z3_5 := (blk_cell BK3.out 5).trans rfl; have z3_6 := (blk_cell BK3.out 6).trans rfl; have z3_7 := (blk_cell BK3.out 7).trans rfl))
          go_ret
          refine ⟨?_, HB3.out⟩
          rw [HE2.out, show Sp.typedErr M true = 23 by unfold Sp.typedErr; rw [← HIV.out]; rfl]
          rfl
        | true =>
          obtain ⟨pv, hpv⟩ : ∃ pv, pv = Sp.plainOk M := ⟨_, rfl⟩
          have HPV := Lib.hid hpv
          have HPC := Lib.hid (fun W (hb : Below w.heap.size w W) => HPL.out W hb HK.out HIV.out.symm)
          rw [← hpv] at HPC
          clear hpv
          cases pv with
          | false =>
            go_wp2_with (first | ((go_at_call 39); (with_reducible refine HIC.out.mono ?_); rintro e w3 ⟨rfl, hb⟩; have BK3 := Lib.hid ((hb.block w.heap.size (blk_lt BK.out)).trans BK.out); have HB3 := Lib.hid (below_then HB.out HB.out.size hb); clear hb; have wlt3 := blk_lt BK3.out; have z3_0 := (blk_cell BK3.out 0).trans rfl; have z3_1 := (blk_cell BK3.out 1).trans rfl; have z3_2 := (blk_cell BK3.out 2).trans rfl; have z3_3 := (blk_cell BK3.out 3).trans rfl; have z3_4 := (blk_cell BK3.out 4).trans rfl; have z3_5 := (blk_cell BK3.out 5).trans rfl; have z3_6 := (blk_cell BK3.out 6).trans rfl; have z3_7 := (blk_cell BK3.out 7).trans rfl) | ((go_at_call 40); (with_reducible refine (HPC.out _ HB3.out).mono ?_); rintro e w4 ⟨rfl, hb⟩; have BK4 := Lib.hid ((hb.block w.heap.size (blk_lt BK3.out)).trans BK3.out); have HB4 := Lib.hid (below_then HB3.out HB3.out.size hb); clear hb; have wlt4 := blk_lt BK4.out; have z4_0 := (blk_cell BK4.out 0).trans rfl; have z4_1 := (blk_cell BK4.out 1).trans rfl; have z4_2 := (blk_cell BK4.out 2).trans rfl; have z4_3 := (blk_cell BK4.out 3).trans rfl; have z4_4 := (blk_cell BK4.out 4).trans rfl; have z4_5 := (blk_cell BK4.out 5).trans rfl; have z4_6 := (blk_cell BK4.out 6).trans rfl; have z4_7 := (blk_cell BK4.out 7).trans rfl))
            go_ret
            refine ⟨?_, HB4.out⟩
            rw [HE2.out, show Sp.typedErr M true = 24 by unfold Sp.typedErr; rw [← HIV.out, ← HPV.out]; rfl]
            rfl
          | true =>
            have HT := Lib.hid (show Sp.typedErr M true = Sp.firstFrom (fun j => (Sp.runOf M true j).2) (M.f2.length - 0) 0 by unfold Sp.typedErr; rw [← HIV.out, ← HPV.out]; rfl)
            go_wp2_with (first | ((go_at_call 39); (with_reducible refine HIC.out.mono ?_); rintro e w3 ⟨rfl, hb⟩; have BK3 := Lib.hid ((hb.block w.heap.size (blk_lt BK.out)).trans BK.out); have HB3 := Lib.hid (below_then HB.out HB.out.size hb); clear hb; have wlt3 := blk_lt BK3.out; have z3_0 := (blk_cell BK3.out 0).trans rfl; have z3_1 := (blk_cell BK3.out 1).trans rfl; have z3_2 := (blk_cell BK3.out 2).trans rfl; have z3_3 := (blk_cell BK3.out 3).trans rfl; have z3_4 := (blk_cell BK3.out 4).trans rfl; have z3_5 := (blk_cell BK3.out 5).trans rfl; have z3_6 := (blk_cell BK3.out 6).trans rfl; have z3_7 := (blk_cell BK3.out 7).trans rfl) | ((go_at_call 40); (with_reducible refine (HPC.out _ HB3.out).mono ?_); rintro e w4 ⟨rfl, hb⟩; have BK4 := Lib.hid ((hb.block w.heap.size (blk_lt BK3.out)).trans BK3.out); have HB4 := Lib.hid (below_then HB3.out HB3.out.size hb); clear hb; have wlt4 := blk_lt BK4.out; have z4_0 := (blk_cell BK4.out 0).trans rfl; have z4_1 := (blk_cell BK4.out 1).trans rfl; have z4_2 := (blk_cell BK4.out 2).trans rfl; have z4_3 := (blk_cell BK4.out 3).trans rfl; have z4_4 := (blk_cell BK4.out 4).trans rfl; have z4_5 := (blk_cell BK4.out 5).trans rfl; have z4_6 := (blk_cell BK4.out 6).trans rfl; have z4_7 := (blk_cell BK4.out 7).trans rfl))
            clear wlt3 z3_0 z3_1 z3_2 z3_3 z3_4 z3_5 z3_6 z3_7
            clear wlt y0 y1 y2 y3 y4 y5 y6 y7
            clear wlt4 z4_0 z4_1 z4_2 z4_3 z4_4 z4_5 z4_6 z4_7 hge
            obtain ⟨wo, hwo⟩ : ∃ wo : World, wo = wr := ⟨_, rfl⟩
            go_loopw [56] (fun i wr => ∃ k : Nat, k ≤ M.f2.length ∧ i = .int .i64 k ∧ Hid (Sp.typedErr M true = Sp.firstFrom (fun j => (Sp.runOf M true j).2) (M.f2.length - k) k) ∧ Hid (wr.heap[w.heap.size]? = some (.cells #[.slice A0 M.f0.length c0, .slice A1 M.f1.length c1, .slice A2 M.f2.length c2, .slice A3 M.f3.length c3, .slice A4 M.f4.length c4, .slice A5 M.f5.length c5, .slice A6 M.f6.length c6, .slice A7 M.f7.length c7] 37 (0, 0))) ∧ Hid (Below w.heap.size w wr)) (fun i _ => M.f2.length - (intOf i).toNat)
            case atStart => exact ⟨0, by omega, rfl, HT, BK4, HB4⟩
            case round =>
              clear BK HB hwo wo
              obtain ⟨k, hk, rfl, HX, BK, HB⟩ := hrel
              rename_i wr _
              have wlt := blk_lt BK.out
              have y0 := (blk_cell BK.out 0).trans rfl
              have y1 := (blk_cell BK.out 1).trans rfl
              have y2 := (blk_cell BK.out 2).trans rfl
              have y3 := (blk_cell BK.out 3).trans rfl
              have y4 := (blk_cell BK.out 4).trans rfl
              have y5 := (blk_cell BK.out 5).trans rfl
              have y6 := (blk_cell BK.out 6).trans rfl
              have y7 := (blk_cell BK.out 7).trans rfl
              by_cases hlt : k < M.f2.length
              · have HFF := Lib.hid (HF.out HK.out HMO.out HIV.out.symm k hlt wr HB.out)
                obtain ⟨r, hr⟩ : ∃ r, r = Sp.runOf M true k := ⟨_, rfl⟩
                have HRR := Lib.hid hr
                rw [← hr] at HFF
                clear hr
                obtain ⟨r1, r2⟩ := r
                by_cases he : r2 = 0
                · subst he
                  have HS := Lib.hid (Sp.first_step (fun j => (Sp.runOf M true j).2) M.f2.length k hlt (by rw [← HRR.out]))
                  go_wp2_with (first | ((go_at_call 21); (with_reducible refine HFF.out.mono ?_); rintro e w5 ⟨rfl, hb⟩; have HB5 := Lib.hid hb; clear hb))
                  go_roundw
                  case rel => exact ⟨k + 1, by omega, by go_num, Lib.hid (HX.out.trans HS.out), Lib.hid ((HB5.out.block _ (blk_lt BK.out)).trans BK.out), Lib.hid (below_then HB.out HB.out.size HB5.out)⟩
                  case measure => simp [intOf]; omega
                · have HS := Lib.hid (Sp.first_here (fun j => (Sp.runOf M true j).2) M.f2.length k hlt (by rw [← HRR.out]; exact he))
                  have g1 : (r2 != 0) = true := by simpa using he
                  clear he
                  go_wp2_with (first | ((go_at_call 21); (with_reducible refine HFF.out.mono ?_); rintro e w5 ⟨rfl, hb⟩; have HB5 := Lib.hid hb; clear hb))
                  go_ret
                  refine ⟨?_, below_then HB.out HB.out.size HB5.out⟩
                  rw [HE2.out, HX.out, HS.out]
                  rw [← HRR.out]
                  rfl
              · go_wp2_with fail
                go_ret
                refine ⟨?_, HB.out⟩
                rw [HE2.out, HX.out, Sp.first_over _ _ _ (by omega)]
                rfl
  · have HNE := Lib.hid hr
    have g1 : (rv != 0) = true := by simpa using hr
    clear hr
    go_enter Tryz.func18, Tryz.ntmps18
    go_wp2_with (first | ((go_at_call 37); (with_reducible refine (HR.out _ HB0.out).mono ?_); rintro e w1 ⟨rfl, hb⟩; have BK1 := Lib.hid ((hb.block w.heap.size (blk_lt BK0.out)).trans BK0.out); have HB1 := Lib.hid (below_then HB0.out HB0.out.size hb); clear hb; have wlt1 := blk_lt BK1.out; have z1_0 := (blk_cell BK1.out 0).trans rfl; have z1_1 := (blk_cell BK1.out 1).trans rfl; have z1_2 := (blk_cell BK1.out 2).trans rfl; have z1_3 := (blk_cell BK1.out 3).trans rfl; have z1_4 := (blk_cell BK1.out 4).trans rfl; have z1_5 := (blk_cell BK1.out 5).trans rfl; have z1_6 := (blk_cell BK1.out 6).trans rfl; have z1_7 := (blk_cell BK1.out 7).trans rfl))
    go_ret
    refine ⟨?_, HB1.out⟩
    rw [HE.out, if_pos (by rw [← HRV.out]; exact HNE.out), ← HRV.out]
    rfl
set_option maxRecDepth 100000 in
set_option maxHeartbeats 8000000 in
theorem check_Module_2 (M : SMod) (cs : List Value) (w : World) (hM : kMod.K w M cs) (n1 : M.f1.length ≤ 140737488355328) (n2 : M.f2.length ≤ 140737488355328) (hsz : ∀ i : Int, (rd_TExp M.f5 i).f0.size ≤ maxLen)
    (hF : Sp.RightOk M → Sp.matchOf M = 0 → Sp.indices M = true → ∀ j : Nat, j < M.f2.length → ∀ W, Below w.heap.size w W → Calls Tryz.prog 21 #[.agg cs.toArray, .int .i64 (j : Int), .int .i64 2] W (FuncEnd (Sp.runOf M false j) W)) :
    Calls Tryz.prog 18 #[.agg cs.toArray, .int .i64 2] w (ErrEnd (Sp.moduleErr M 2) w) := by
  obtain ⟨A0, c0, A1, c1, A2, c2, A3, c3, A4, c4, A5, c5, A6, c6, A7, c7, rfl, l0, g0, l1, g1, l2, g2, -⟩ := kMod_open hM
  have HG2 := Lib.hid g2
  clear g0 g1 g2 l0 l1 l2
  have HM := Lib.hid hM; clear hM
  have HE := Lib.hid (show Sp.moduleErr M 2 = if Sp.right M ≠ 0 then Sp.right M else if Sp.matchOf M ≠ 0 then Sp.matchOf M else Sp.typedErr M false by unfold Sp.moduleErr; rw [if_neg (by decide)]; rfl)
  have BK0 := Lib.hid (show (w.alloc (.cells #[.slice A0 M.f0.length c0, .slice A1 M.f1.length c1, .slice A2 M.f2.length c2, .slice A3 M.f3.length c3, .slice A4 M.f4.length c4, .slice A5 M.f5.length c5, .slice A6 M.f6.length c6, .slice A7 M.f7.length c7] 37)).heap[w.heap.size]? = some (.cells #[.slice A0 M.f0.length c0, .slice A1 M.f1.length c1, .slice A2 M.f2.length c2, .slice A3 M.f3.length c3, .slice A4 M.f4.length c4, .slice A5 M.f5.length c5, .slice A6 M.f6.length c6, .slice A7 M.f7.length c7] 37 (0, 0)) from heap_alloc_new w _)
  have HB0 := Lib.hid (below_alloc (Below.refl w.heap.size w) (.cells #[.slice A0 M.f0.length c0, .slice A1 M.f1.length c1, .slice A2 M.f2.length c2, .slice A3 M.f3.length c3, .slice A4 M.f4.length c4, .slice A5 M.f5.length c5, .slice A6 M.f6.length c6, .slice A7 M.f7.length c7] 37))
  have HR := Lib.hid (fun W (hb : Below w.heap.size w W) => module_Right M _ W (Kd.K_below kMod hb HM.out) n1 n2 hsz)
  have HIX := Lib.hid (fun W (hb : Below w.heap.size w W) (h : Sp.RightOk M) => check_indices M _ W (Kd.K_below kMod hb HM.out) (by have := h.n12; omega) (by have := h.n12; omega) (by have := h.n5; omega) (by have := h.n6; omega) (small_tys h))
  have HPL := Lib.hid (fun W (hb : Below w.heap.size w W) (h : Sp.RightOk M) (hi : Sp.indices M = true) => check_plain_is M _ W (Kd.K_below kMod hb HM.out) hi (by have := h.n5; omega) (by have := h.n6; omega) (by have := h.n0; omega))
  have HF := Lib.hid hF
  clear hF n1 n2 hsz
  obtain ⟨rv, hrv⟩ : ∃ rv, rv = Sp.right M := ⟨_, rfl⟩
  have HRV := Lib.hid hrv
  rw [← hrv] at HR
  clear hrv
  by_cases hr : rv = 0
  · subst hr
    have hk := Sp.right_ok HRV.out.symm
    have hl2 := hk.n12
    have HK := Lib.hid hk; clear hk
    go_enter Tryz.func18, Tryz.ntmps18
    go_wp2_with (first | ((go_at_call 37); (with_reducible refine (HR.out _ HB0.out).mono ?_); rintro e w1 ⟨rfl, hb⟩; have BK1 := Lib.hid ((hb.block w.heap.size (blk_lt BK0.out)).trans BK0.out); have HB1 := Lib.hid (below_then HB0.out HB0.out.size hb); clear hb; have wlt1 := blk_lt BK1.out; have z1_0 := (blk_cell BK1.out 0).trans rfl; have z1_1 := (blk_cell BK1.out 1).trans rfl; have z1_2 := (blk_cell BK1.out 2).trans rfl; have z1_3 := (blk_cell BK1.out 3).trans rfl; have z1_4 := (blk_cell BK1.out 4).trans rfl; have z1_5 := (blk_cell BK1.out 5).trans rfl; have z1_6 := (blk_cell BK1.out 6).trans rfl; have z1_7 := (blk_cell BK1.out 7).trans rfl))
    clear wlt1 z1_0 z1_1 z1_2 z1_3 z1_4 z1_5 z1_6 z1_7
    go_loopw [27] (fun i wr => ∃ k : Nat, k ≤ M.f2.length ∧ i = .int .i64 k ∧ Hid (Sp.matchOf M = Sp.firstFrom (fun j => Sp.matchErr (rd_TFun M.f2 (j : Int)).f2) (M.f2.length - k) k) ∧ Hid (wr.heap[w.heap.size]? = some (.cells #[.slice A0 M.f0.length c0, .slice A1 M.f1.length c1, .slice A2 M.f2.length c2, .slice A3 M.f3.length c3, .slice A4 M.f4.length c4, .slice A5 M.f5.length c5, .slice A6 M.f6.length c6, .slice A7 M.f7.length c7] 37 (0, 0))) ∧ Hid (Below w.heap.size w wr)) (fun i _ => M.f2.length - (intOf i).toNat)
    case atStart => exact ⟨0, by omega, rfl, Lib.hid rfl, BK1, HB1⟩
    case round =>
      clear BK1 HB1
      obtain ⟨k, hk, rfl, HX, BK, HB⟩ := hrel
      rename_i wr _
      have wlt := blk_lt BK.out
      have y0 := (blk_cell BK.out 0).trans rfl
      have y1 := (blk_cell BK.out 1).trans rfl
      have y2 := (blk_cell BK.out 2).trans rfl
      have y3 := (blk_cell BK.out 3).trans rfl
      have y4 := (blk_cell BK.out 4).trans rfl
      have y5 := (blk_cell BK.out 5).trans rfl
      have y6 := (blk_cell BK.out 6).trans rfl
      have y7 := (blk_cell BK.out 7).trans rfl
      by_cases hlt : k < M.f2.length
      · obtain ⟨fd, B2, d2, B3, d3, rfl, e2, e3, e4, -, -, -, q5⟩ := at_TFun (Kd.C_below HG2.out HB.out) (k : Int) (by omega) (by omega)
        rw [Int.toNat_natCast] at e2 e3 e4
        have hc := Sp.coded_len (HK.out.fn k hlt)
        obtain ⟨x, hx⟩ : ∃ x, x = rd_TFun M.f2 (k : Int) := ⟨_, rfl⟩
        rw [← hx] at e2 e3 e4 q5 hc
        have HXX := Lib.hid hx; clear hx
        have HOF := Lib.hid (fun (W : World) (hb : Below wr.heap.size wr W) => match_Of B3 d3 x.f2 W (Kd.C_below q5 hb) hc.1)
        clear q5 hc
        obtain ⟨ev, hev⟩ : ∃ ev, ev = Sp.matchErr x.f2 := ⟨_, rfl⟩
        have HEV := Lib.hid hev
        rw [← hev] at HOF
        clear hev
        by_cases he : ev = 0
        · subst he
          have HS := Lib.hid (Sp.first_step (fun j => Sp.matchErr (rd_TFun M.f2 (j : Int)).f2) M.f2.length k hlt (by rw [← HXX.out]; exact HEV.out.symm))
          go_wp2_with (first | ((go_at_call 38); (with_reducible refine (HOF.out _ (below_alloc (Below.refl _ _) _)).mono ?_); rintro e w2 ⟨⟨v, rfl⟩, hb⟩; have HB2 := Lib.hid hb; clear hb))
          go_roundw
          case rel => exact ⟨k + 1, by omega, by go_num, Lib.hid (HX.out.trans HS.out), Lib.hid ((HB2.out.block _ (blk_lt (blk_alloc BK.out _))).trans (blk_alloc BK.out _)), Lib.hid (below_then (below_alloc HB.out _) (by have := HB.out.size; simp; omega) HB2.out)⟩
          case measure => simp [intOf]; omega
        · have HS := Lib.hid (Sp.first_here (fun j => Sp.matchErr (rd_TFun M.f2 (j : Int)).f2) M.f2.length k hlt (by rw [← HXX.out, ← HEV.out]; exact he))
          have HNE := Lib.hid he
          have g1 : (ev != 0) = true := by simpa using he
          clear he
          go_wp2_with (first | ((go_at_call 38); (with_reducible refine (HOF.out _ (below_alloc (Below.refl _ _) _)).mono ?_); rintro e w2 ⟨⟨v, rfl⟩, hb⟩; have HB2 := Lib.hid hb; clear hb))
          go_ret
          have e1 : Sp.matchOf M = ev := by rw [HX.out, HS.out]; rw [← HXX.out]; exact HEV.out.symm
          refine ⟨?_, below_then (below_alloc HB.out _) (by have := HB.out.size; simp; omega) HB2.out⟩
          rw [HE.out, if_neg (by rw [← HRV.out]; simp), e1, if_pos HNE.out]
          rfl
      · have HMO := Lib.hid (show Sp.matchOf M = 0 from HX.out.trans (Sp.first_over _ _ _ (by omega)))
        have HE2 := Lib.hid (HE.out.trans (show _ = Sp.typedErr M false by rw [if_neg (by rw [← HRV.out]; simp), if_neg (by rw [HMO.out]; simp)]))
        have hge : ¬ ((k : Int) < (M.f2.length : Int)) := by omega
        obtain ⟨iv, hiv⟩ : ∃ iv, iv = Sp.indices M := ⟨_, rfl⟩
        have HIV := Lib.hid hiv
        have HIC := Lib.hid (HIX.out wr HB.out HK.out)
        rw [← hiv] at HIC
        clear hiv HX hlt
        cases iv with
        | false =>
          go_wp2_with (first | ((go_at_call 39); (with_reducible refine HIC.out.mono ?_); rintro e w3 ⟨rfl, hb⟩; have BK3 := Lib.hid ((hb.block w.heap.size (blk_lt BK.out)).trans BK.out); have HB3 := Lib.hid (below_then HB.out HB.out.size hb); clear hb; have wlt3 := blk_lt BK3.out; have z3_0 := (blk_cell BK3.out 0).trans rfl; have z3_1 := (blk_cell BK3.out 1).trans rfl; have z3_2 := (blk_cell BK3.out 2).trans rfl; have z3_3 := (blk_cell BK3.out 3).trans rfl; have z3_4 := (blk_cell BK3.out 4).trans rfl; have z3_5 := (blk_cell BK3.out 5).trans rfl; have z3_6 := (blk_cell BK3.out 6).trans rfl; have z3_7 := (blk_cell BK3.out 7).trans rfl))
          go_ret
          refine ⟨?_, HB3.out⟩
          rw [HE2.out, show Sp.typedErr M false = 23 by unfold Sp.typedErr; rw [← HIV.out]; rfl]
          rfl
        | true =>
          have HT := Lib.hid (show Sp.typedErr M false = Sp.firstFrom (fun j => (Sp.runOf M false j).2) (M.f2.length - 0) 0 by unfold Sp.typedErr; rw [← HIV.out]; rfl)
          go_wp2_with (first | ((go_at_call 39); (with_reducible refine HIC.out.mono ?_); rintro e w3 ⟨rfl, hb⟩; have BK3 := Lib.hid ((hb.block w.heap.size (blk_lt BK.out)).trans BK.out); have HB3 := Lib.hid (below_then HB.out HB.out.size hb); clear hb; have wlt3 := blk_lt BK3.out; have z3_0 := (blk_cell BK3.out 0).trans rfl; have z3_1 := (blk_cell BK3.out 1).trans rfl; have z3_2 := (blk_cell BK3.out 2).trans rfl; have z3_3 := (blk_cell BK3.out 3).trans rfl; have z3_4 := (blk_cell BK3.out 4).trans rfl; have z3_5 := (blk_cell BK3.out 5).trans rfl; have z3_6 := (blk_cell BK3.out 6).trans rfl; have z3_7 := (blk_cell BK3.out 7).trans rfl))
          clear wlt y0 y1 y2 y3 y4 y5 y6 y7
          clear wlt3 z3_0 z3_1 z3_2 z3_3 z3_4 z3_5 z3_6 z3_7 hge
          obtain ⟨wo, hwo⟩ : ∃ wo : World, wo = wr := ⟨_, rfl⟩
          go_loopw [56] (fun i wr => ∃ k : Nat, k ≤ M.f2.length ∧ i = .int .i64 k ∧ Hid (Sp.typedErr M false = Sp.firstFrom (fun j => (Sp.runOf M false j).2) (M.f2.length - k) k) ∧ Hid (wr.heap[w.heap.size]? = some (.cells #[.slice A0 M.f0.length c0, .slice A1 M.f1.length c1, .slice A2 M.f2.length c2, .slice A3 M.f3.length c3, .slice A4 M.f4.length c4, .slice A5 M.f5.length c5, .slice A6 M.f6.length c6, .slice A7 M.f7.length c7] 37 (0, 0))) ∧ Hid (Below w.heap.size w wr)) (fun i _ => M.f2.length - (intOf i).toNat)
          case atStart => exact ⟨0, by omega, rfl, HT, BK3, HB3⟩
          case round =>
            clear BK HB hwo wo
            obtain ⟨k, hk, rfl, HX, BK, HB⟩ := hrel
            rename_i wr _
            have wlt := blk_lt BK.out
            have y0 := (blk_cell BK.out 0).trans rfl
            have y1 := (blk_cell BK.out 1).trans rfl
            have y2 := (blk_cell BK.out 2).trans rfl
            have y3 := (blk_cell BK.out 3).trans rfl
            have y4 := (blk_cell BK.out 4).trans rfl
            have y5 := (blk_cell BK.out 5).trans rfl
            have y6 := (blk_cell BK.out 6).trans rfl
            have y7 := (blk_cell BK.out 7).trans rfl
            by_cases hlt : k < M.f2.length
            · have HFF := Lib.hid (HF.out HK.out HMO.out HIV.out.symm k hlt wr HB.out)
              obtain ⟨r, hr⟩ : ∃ r, r = Sp.runOf M false k := ⟨_, rfl⟩
              have HRR := Lib.hid hr
              rw [← hr] at HFF
              clear hr
              obtain ⟨r1, r2⟩ := r
              by_cases he : r2 = 0
              · subst he
                have HS := Lib.hid (Sp.first_step (fun j => (Sp.runOf M false j).2) M.f2.length k hlt (by rw [← HRR.out]))
                go_wp2_with (first | ((go_at_call 21); (with_reducible refine HFF.out.mono ?_); rintro e w5 ⟨rfl, hb⟩; have HB5 := Lib.hid hb; clear hb))
                go_roundw
                case rel => exact ⟨k + 1, by omega, by go_num, Lib.hid (HX.out.trans HS.out), Lib.hid ((HB5.out.block _ (blk_lt BK.out)).trans BK.out), Lib.hid (below_then HB.out HB.out.size HB5.out)⟩
                case measure => simp [intOf]; omega
              · have HS := Lib.hid (Sp.first_here (fun j => (Sp.runOf M false j).2) M.f2.length k hlt (by rw [← HRR.out]; exact he))
                have g1 : (r2 != 0) = true := by simpa using he
                clear he
                go_wp2_with (first | ((go_at_call 21); (with_reducible refine HFF.out.mono ?_); rintro e w5 ⟨rfl, hb⟩; have HB5 := Lib.hid hb; clear hb))
                go_ret
                refine ⟨?_, below_then HB.out HB.out.size HB5.out⟩
                rw [HE2.out, HX.out, HS.out]
                rw [← HRR.out]
                rfl
            · go_wp2_with fail
              go_ret
              refine ⟨?_, HB.out⟩
              rw [HE2.out, HX.out, Sp.first_over _ _ _ (by omega)]
              rfl
  · have HNE := Lib.hid hr
    have g1 : (rv != 0) = true := by simpa using hr
    clear hr
    go_enter Tryz.func18, Tryz.ntmps18
    go_wp2_with (first | ((go_at_call 37); (with_reducible refine (HR.out _ HB0.out).mono ?_); rintro e w1 ⟨rfl, hb⟩; have BK1 := Lib.hid ((hb.block w.heap.size (blk_lt BK0.out)).trans BK0.out); have HB1 := Lib.hid (below_then HB0.out HB0.out.size hb); clear hb; have wlt1 := blk_lt BK1.out; have z1_0 := (blk_cell BK1.out 0).trans rfl; have z1_1 := (blk_cell BK1.out 1).trans rfl; have z1_2 := (blk_cell BK1.out 2).trans rfl; have z1_3 := (blk_cell BK1.out 3).trans rfl; have z1_4 := (blk_cell BK1.out 4).trans rfl; have z1_5 := (blk_cell BK1.out 5).trans rfl; have z1_6 := (blk_cell BK1.out 6).trans rfl; have z1_7 := (blk_cell BK1.out 7).trans rfl))
    go_ret
    refine ⟨?_, HB1.out⟩
    rw [HE.out, if_pos (by rw [← HRV.out]; exact HNE.out), ← HRV.out]
    rfl
end Go.Proofs.YthehihjcpiadgaaGreat
end
