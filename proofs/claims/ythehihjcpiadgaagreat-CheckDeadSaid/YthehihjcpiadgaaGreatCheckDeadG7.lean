/- Lemmas for the row of CheckDead, part 7: what its functions do. -/
import Derived.Below
import Derived.ChangeSame
import Derived.ProofKit
import Derived.OpenShut
import Derived.Test.YthehihjcpiadgaaGreatCheckDeadG6
section
namespace Go.Proofs.YthehihjcpiadgaaGreat
open Go.RowKit Go.Proofs.YthehihjcpiadgaaGreatW.PrintWords Go.Proofs.YthehihjcpiadgaaGreatW.PrintLast
set_option linter.unusedSimpArgs false
set_option linter.unusedVariables false
set_option maxRecDepth 100000 in
set_option maxHeartbeats 4000000 in
theorem known_12 (w : World) (base g : Nat) (E : Sp.Env) (cs : List Value) (vL v1 v2 : Value) (s : Sp.St) (vT vF : Value) (h : StkAt w base g (RowsD vL v1 v2) (cs ++ [vL, v1, v2]) s vT vF) (hE : EnvAt w base E cs vL v1 v2) (hI : Sp.SInv s) (a b n : Int) (A : Option Addr) (l c : Nat) (op : Int) (hA : Sp.accB op = false) (hO : Sp.opens op = false) (b12 : (op == 12) = true) : Calls Tryz.prog 46 #[.pointer (some ⟨g, 0, none⟩), instV op a b n (.slice A l c)] w (BoolEnd (Sp.within a 0 ((s.F.length : Int) - 1)) w) := by
  have hK := env_K hE
  obtain ⟨A0, c0, A1, c1, A2, c2, A3, c3, A4, c4, A5, c5, A6, c6, A7, c7, rfl, -⟩ := kMod_open hK
  have hL := hE.choose_spec.2.2.2.1
  obtain ⟨PL, kL, rfl⟩ := Kd.R_slice hL
  obtain ⟨PF, kF, rfl⟩ := Kd.R_slice h.2.2.2.2.2.1
  obtain ⟨glt, -, -⟩ := stk_lt h
  have y0 : w.cell? ⟨g, 0, none⟩ = some (.slice A0 E.M.f0.length c0) := (blk_cell h.1 0).trans rfl
  have y1 : w.cell? ⟨g, 1, none⟩ = some (.slice A1 E.M.f1.length c1) := (blk_cell h.1 1).trans rfl
  have y2 : w.cell? ⟨g, 2, none⟩ = some (.slice A2 E.M.f2.length c2) := (blk_cell h.1 2).trans rfl
  have y3 : w.cell? ⟨g, 3, none⟩ = some (.slice A3 E.M.f3.length c3) := (blk_cell h.1 3).trans rfl
  have y4 : w.cell? ⟨g, 4, none⟩ = some (.slice A4 E.M.f4.length c4) := (blk_cell h.1 4).trans rfl
  have y5 : w.cell? ⟨g, 5, none⟩ = some (.slice A5 E.M.f5.length c5) := (blk_cell h.1 5).trans rfl
  have y6 : w.cell? ⟨g, 6, none⟩ = some (.slice A6 E.M.f6.length c6) := (blk_cell h.1 6).trans rfl
  have y7 : w.cell? ⟨g, 7, none⟩ = some (.slice A7 E.M.f7.length c7) := (blk_cell h.1 7).trans rfl
  have y8 : w.cell? ⟨g, 8, none⟩ = some (.slice PL E.L.length kL) := (blk_cell h.1 8).trans rfl
  have y12 := (blk_cell h.1 12).trans (stk_12 h.2.1 _ _ _)
  have HA : Hid (∀ w, Calls Tryz.prog 88 #[.int .i64 op] w (fun e w' => e = .returned (.tuple #[.int .i64 (Sp.accN op), .int .i64 (Sp.accT0 op), .bool (Sp.accS op), .bool false]) ∧ w = w')) := Lib.hid (fun w => by have := ops_Access op w; rw [hA] at this; exact this)
  have HO : Hid (∀ w, Calls Tryz.prog 87 #[.int .i64 op] w (fun e w' => e = .returned (.bool false) ∧ w = w')) := Lib.hid (fun w => by have := ops_Opens op w; rw [hO] at this; exact this)
  have HK := Lib.hid hK
  clear h hE hI hK hL hA hO
  go_enter Tryz.func46, Tryz.ntmps46
  go_wp2_with (first | ((go_at_call 88); (with_reducible refine (HA.out _).mono ?_); rintro e w' ⟨rfl, rfl⟩) | ((go_at_call 87); (with_reducible refine (HO.out _).mono ?_); rintro e w' ⟨rfl, rfl⟩) | ((go_at_call 43); (refine (check_there _ _ _).mono ?_); rintro e w' ⟨rfl, rfl⟩))
  go_quiet ((go_at_call 43; exact Calls.quiet_of_same ((check_there _ _ _).mono (fun _ _ h => ⟨h.1, h.2.symm⟩))))
  go_wp2_with fail
  go_ret
  exact ⟨rfl, (by repeat (first | exact Below.refl _ _ | refine below_alloc ?_ _ | refine pw_below_drewN ?_ _))⟩
set_option maxRecDepth 100000 in
set_option maxHeartbeats 4000000 in
theorem known_13 (w : World) (base g : Nat) (E : Sp.Env) (cs : List Value) (vL v1 v2 : Value) (s : Sp.St) (vT vF : Value) (h : StkAt w base g (RowsD vL v1 v2) (cs ++ [vL, v1, v2]) s vT vF) (hE : EnvAt w base E cs vL v1 v2) (hI : Sp.SInv s) (a b n : Int) (A : Option Addr) (l c : Nat) (op : Int) (hA : Sp.accB op = false) (hO : Sp.opens op = false) (b12 : (op == 12) = false) (b13 : (op == 13) = true) : Calls Tryz.prog 46 #[.pointer (some ⟨g, 0, none⟩), instV op a b n (.slice A l c)] w (BoolEnd (Sp.within a 0 ((s.F.length : Int) - 1)) w) := by
  have hK := env_K hE
  obtain ⟨A0, c0, A1, c1, A2, c2, A3, c3, A4, c4, A5, c5, A6, c6, A7, c7, rfl, -⟩ := kMod_open hK
  have hL := hE.choose_spec.2.2.2.1
  obtain ⟨PL, kL, rfl⟩ := Kd.R_slice hL
  obtain ⟨PF, kF, rfl⟩ := Kd.R_slice h.2.2.2.2.2.1
  obtain ⟨glt, -, -⟩ := stk_lt h
  have y0 : w.cell? ⟨g, 0, none⟩ = some (.slice A0 E.M.f0.length c0) := (blk_cell h.1 0).trans rfl
  have y1 : w.cell? ⟨g, 1, none⟩ = some (.slice A1 E.M.f1.length c1) := (blk_cell h.1 1).trans rfl
  have y2 : w.cell? ⟨g, 2, none⟩ = some (.slice A2 E.M.f2.length c2) := (blk_cell h.1 2).trans rfl
  have y3 : w.cell? ⟨g, 3, none⟩ = some (.slice A3 E.M.f3.length c3) := (blk_cell h.1 3).trans rfl
  have y4 : w.cell? ⟨g, 4, none⟩ = some (.slice A4 E.M.f4.length c4) := (blk_cell h.1 4).trans rfl
  have y5 : w.cell? ⟨g, 5, none⟩ = some (.slice A5 E.M.f5.length c5) := (blk_cell h.1 5).trans rfl
  have y6 : w.cell? ⟨g, 6, none⟩ = some (.slice A6 E.M.f6.length c6) := (blk_cell h.1 6).trans rfl
  have y7 : w.cell? ⟨g, 7, none⟩ = some (.slice A7 E.M.f7.length c7) := (blk_cell h.1 7).trans rfl
  have y8 : w.cell? ⟨g, 8, none⟩ = some (.slice PL E.L.length kL) := (blk_cell h.1 8).trans rfl
  have y12 := (blk_cell h.1 12).trans (stk_12 h.2.1 _ _ _)
  have HA : Hid (∀ w, Calls Tryz.prog 88 #[.int .i64 op] w (fun e w' => e = .returned (.tuple #[.int .i64 (Sp.accN op), .int .i64 (Sp.accT0 op), .bool (Sp.accS op), .bool false]) ∧ w = w')) := Lib.hid (fun w => by have := ops_Access op w; rw [hA] at this; exact this)
  have HO : Hid (∀ w, Calls Tryz.prog 87 #[.int .i64 op] w (fun e w' => e = .returned (.bool false) ∧ w = w')) := Lib.hid (fun w => by have := ops_Opens op w; rw [hO] at this; exact this)
  have HK := Lib.hid hK
  clear h hE hI hK hL hA hO
  go_enter Tryz.func46, Tryz.ntmps46
  go_wp2_with (first | ((go_at_call 88); (with_reducible refine (HA.out _).mono ?_); rintro e w' ⟨rfl, rfl⟩) | ((go_at_call 87); (with_reducible refine (HO.out _).mono ?_); rintro e w' ⟨rfl, rfl⟩) | ((go_at_call 43); (refine (check_there _ _ _).mono ?_); rintro e w' ⟨rfl, rfl⟩))
  go_quiet ((go_at_call 43; exact Calls.quiet_of_same ((check_there _ _ _).mono (fun _ _ h => ⟨h.1, h.2.symm⟩))))
  go_wp2_with fail
  go_ret
  exact ⟨rfl, (by repeat (first | exact Below.refl _ _ | refine below_alloc ?_ _ | refine pw_below_drewN ?_ _))⟩
set_option maxRecDepth 100000 in
set_option maxHeartbeats 4000000 in
theorem known_32 (w : World) (base g : Nat) (E : Sp.Env) (cs : List Value) (vL v1 v2 : Value) (s : Sp.St) (vT vF : Value) (h : StkAt w base g (RowsD vL v1 v2) (cs ++ [vL, v1, v2]) s vT vF) (hE : EnvAt w base E cs vL v1 v2) (hI : Sp.SInv s) (a b n : Int) (A : Option Addr) (l c : Nat) (op : Int) (hA : Sp.accB op = false) (hO : Sp.opens op = false) (b12 : (op == 12) = false) (b13 : (op == 13) = false) (b14 : (op == 14) = false) (b16 : (op == 16) = false) (b18 : (op == 18) = false) (b32 : (op == 32) = true) : Calls Tryz.prog 46 #[.pointer (some ⟨g, 0, none⟩), instV op a b n (.slice A l c)] w (BoolEnd (Sp.within a 0 ((E.L.length : Int) - 1)) w) := by
  have hK := env_K hE
  obtain ⟨A0, c0, A1, c1, A2, c2, A3, c3, A4, c4, A5, c5, A6, c6, A7, c7, rfl, -⟩ := kMod_open hK
  have hL := hE.choose_spec.2.2.2.1
  obtain ⟨PL, kL, rfl⟩ := Kd.R_slice hL
  obtain ⟨PF, kF, rfl⟩ := Kd.R_slice h.2.2.2.2.2.1
  obtain ⟨glt, -, -⟩ := stk_lt h
  have y0 : w.cell? ⟨g, 0, none⟩ = some (.slice A0 E.M.f0.length c0) := (blk_cell h.1 0).trans rfl
  have y1 : w.cell? ⟨g, 1, none⟩ = some (.slice A1 E.M.f1.length c1) := (blk_cell h.1 1).trans rfl
  have y2 : w.cell? ⟨g, 2, none⟩ = some (.slice A2 E.M.f2.length c2) := (blk_cell h.1 2).trans rfl
  have y3 : w.cell? ⟨g, 3, none⟩ = some (.slice A3 E.M.f3.length c3) := (blk_cell h.1 3).trans rfl
  have y4 : w.cell? ⟨g, 4, none⟩ = some (.slice A4 E.M.f4.length c4) := (blk_cell h.1 4).trans rfl
  have y5 : w.cell? ⟨g, 5, none⟩ = some (.slice A5 E.M.f5.length c5) := (blk_cell h.1 5).trans rfl
  have y6 : w.cell? ⟨g, 6, none⟩ = some (.slice A6 E.M.f6.length c6) := (blk_cell h.1 6).trans rfl
  have y7 : w.cell? ⟨g, 7, none⟩ = some (.slice A7 E.M.f7.length c7) := (blk_cell h.1 7).trans rfl
  have y8 : w.cell? ⟨g, 8, none⟩ = some (.slice PL E.L.length kL) := (blk_cell h.1 8).trans rfl
  have y12 := (blk_cell h.1 12).trans (stk_12 h.2.1 _ _ _)
  have HA : Hid (∀ w, Calls Tryz.prog 88 #[.int .i64 op] w (fun e w' => e = .returned (.tuple #[.int .i64 (Sp.accN op), .int .i64 (Sp.accT0 op), .bool (Sp.accS op), .bool false]) ∧ w = w')) := Lib.hid (fun w => by have := ops_Access op w; rw [hA] at this; exact this)
  have HO : Hid (∀ w, Calls Tryz.prog 87 #[.int .i64 op] w (fun e w' => e = .returned (.bool false) ∧ w = w')) := Lib.hid (fun w => by have := ops_Opens op w; rw [hO] at this; exact this)
  have HK := Lib.hid hK
  clear h hE hI hK hL hA hO
  go_enter Tryz.func46, Tryz.ntmps46
  go_wp2_with (first | ((go_at_call 88); (with_reducible refine (HA.out _).mono ?_); rintro e w' ⟨rfl, rfl⟩) | ((go_at_call 87); (with_reducible refine (HO.out _).mono ?_); rintro e w' ⟨rfl, rfl⟩) | ((go_at_call 43); (refine (check_there _ _ _).mono ?_); rintro e w' ⟨rfl, rfl⟩))
  go_quiet ((go_at_call 43; exact Calls.quiet_of_same ((check_there _ _ _).mono (fun _ _ h => ⟨h.1, h.2.symm⟩))))
  go_wp2_with fail
  go_ret
  exact ⟨rfl, (by repeat (first | exact Below.refl _ _ | refine below_alloc ?_ _ | refine pw_below_drewN ?_ _))⟩
set_option maxRecDepth 100000 in
set_option maxHeartbeats 4000000 in
theorem known_33 (w : World) (base g : Nat) (E : Sp.Env) (cs : List Value) (vL v1 v2 : Value) (s : Sp.St) (vT vF : Value) (h : StkAt w base g (RowsD vL v1 v2) (cs ++ [vL, v1, v2]) s vT vF) (hE : EnvAt w base E cs vL v1 v2) (hI : Sp.SInv s) (a b n : Int) (A : Option Addr) (l c : Nat) (op : Int) (hA : Sp.accB op = false) (hO : Sp.opens op = false) (b12 : (op == 12) = false) (b13 : (op == 13) = false) (b14 : (op == 14) = false) (b16 : (op == 16) = false) (b18 : (op == 18) = false) (b32 : (op == 32) = false) (b33 : (op == 33) = true) : Calls Tryz.prog 46 #[.pointer (some ⟨g, 0, none⟩), instV op a b n (.slice A l c)] w (BoolEnd (Sp.within a 0 ((E.L.length : Int) - 1)) w) := by
  have hK := env_K hE
  obtain ⟨A0, c0, A1, c1, A2, c2, A3, c3, A4, c4, A5, c5, A6, c6, A7, c7, rfl, -⟩ := kMod_open hK
  have hL := hE.choose_spec.2.2.2.1
  obtain ⟨PL, kL, rfl⟩ := Kd.R_slice hL
  obtain ⟨PF, kF, rfl⟩ := Kd.R_slice h.2.2.2.2.2.1
  obtain ⟨glt, -, -⟩ := stk_lt h
  have y0 : w.cell? ⟨g, 0, none⟩ = some (.slice A0 E.M.f0.length c0) := (blk_cell h.1 0).trans rfl
  have y1 : w.cell? ⟨g, 1, none⟩ = some (.slice A1 E.M.f1.length c1) := (blk_cell h.1 1).trans rfl
  have y2 : w.cell? ⟨g, 2, none⟩ = some (.slice A2 E.M.f2.length c2) := (blk_cell h.1 2).trans rfl
  have y3 : w.cell? ⟨g, 3, none⟩ = some (.slice A3 E.M.f3.length c3) := (blk_cell h.1 3).trans rfl
  have y4 : w.cell? ⟨g, 4, none⟩ = some (.slice A4 E.M.f4.length c4) := (blk_cell h.1 4).trans rfl
  have y5 : w.cell? ⟨g, 5, none⟩ = some (.slice A5 E.M.f5.length c5) := (blk_cell h.1 5).trans rfl
  have y6 : w.cell? ⟨g, 6, none⟩ = some (.slice A6 E.M.f6.length c6) := (blk_cell h.1 6).trans rfl
  have y7 : w.cell? ⟨g, 7, none⟩ = some (.slice A7 E.M.f7.length c7) := (blk_cell h.1 7).trans rfl
  have y8 : w.cell? ⟨g, 8, none⟩ = some (.slice PL E.L.length kL) := (blk_cell h.1 8).trans rfl
  have y12 := (blk_cell h.1 12).trans (stk_12 h.2.1 _ _ _)
  have HA : Hid (∀ w, Calls Tryz.prog 88 #[.int .i64 op] w (fun e w' => e = .returned (.tuple #[.int .i64 (Sp.accN op), .int .i64 (Sp.accT0 op), .bool (Sp.accS op), .bool false]) ∧ w = w')) := Lib.hid (fun w => by have := ops_Access op w; rw [hA] at this; exact this)
  have HO : Hid (∀ w, Calls Tryz.prog 87 #[.int .i64 op] w (fun e w' => e = .returned (.bool false) ∧ w = w')) := Lib.hid (fun w => by have := ops_Opens op w; rw [hO] at this; exact this)
  have HK := Lib.hid hK
  clear h hE hI hK hL hA hO
  go_enter Tryz.func46, Tryz.ntmps46
  go_wp2_with (first | ((go_at_call 88); (with_reducible refine (HA.out _).mono ?_); rintro e w' ⟨rfl, rfl⟩) | ((go_at_call 87); (with_reducible refine (HO.out _).mono ?_); rintro e w' ⟨rfl, rfl⟩) | ((go_at_call 43); (refine (check_there _ _ _).mono ?_); rintro e w' ⟨rfl, rfl⟩))
  go_quiet ((go_at_call 43; exact Calls.quiet_of_same ((check_there _ _ _).mono (fun _ _ h => ⟨h.1, h.2.symm⟩))))
  go_wp2_with fail
  go_ret
  exact ⟨rfl, (by repeat (first | exact Below.refl _ _ | refine below_alloc ?_ _ | refine pw_below_drewN ?_ _))⟩
set_option maxRecDepth 100000 in
set_option maxHeartbeats 4000000 in
theorem known_34 (w : World) (base g : Nat) (E : Sp.Env) (cs : List Value) (vL v1 v2 : Value) (s : Sp.St) (vT vF : Value) (h : StkAt w base g (RowsD vL v1 v2) (cs ++ [vL, v1, v2]) s vT vF) (hE : EnvAt w base E cs vL v1 v2) (hI : Sp.SInv s) (a b n : Int) (A : Option Addr) (l c : Nat) (op : Int) (hA : Sp.accB op = false) (hO : Sp.opens op = false) (b12 : (op == 12) = false) (b13 : (op == 13) = false) (b14 : (op == 14) = false) (b16 : (op == 16) = false) (b18 : (op == 18) = false) (b32 : (op == 32) = false) (b33 : (op == 33) = false) (b34 : (op == 34) = true) : Calls Tryz.prog 46 #[.pointer (some ⟨g, 0, none⟩), instV op a b n (.slice A l c)] w (BoolEnd (Sp.within a 0 ((E.L.length : Int) - 1)) w) := by
  have hK := env_K hE
  obtain ⟨A0, c0, A1, c1, A2, c2, A3, c3, A4, c4, A5, c5, A6, c6, A7, c7, rfl, -⟩ := kMod_open hK
  have hL := hE.choose_spec.2.2.2.1
  obtain ⟨PL, kL, rfl⟩ := Kd.R_slice hL
  obtain ⟨PF, kF, rfl⟩ := Kd.R_slice h.2.2.2.2.2.1
  obtain ⟨glt, -, -⟩ := stk_lt h
  have y0 : w.cell? ⟨g, 0, none⟩ = some (.slice A0 E.M.f0.length c0) := (blk_cell h.1 0).trans rfl
  have y1 : w.cell? ⟨g, 1, none⟩ = some (.slice A1 E.M.f1.length c1) := (blk_cell h.1 1).trans rfl
  have y2 : w.cell? ⟨g, 2, none⟩ = some (.slice A2 E.M.f2.length c2) := (blk_cell h.1 2).trans rfl
  have y3 : w.cell? ⟨g, 3, none⟩ = some (.slice A3 E.M.f3.length c3) := (blk_cell h.1 3).trans rfl
  have y4 : w.cell? ⟨g, 4, none⟩ = some (.slice A4 E.M.f4.length c4) := (blk_cell h.1 4).trans rfl
  have y5 : w.cell? ⟨g, 5, none⟩ = some (.slice A5 E.M.f5.length c5) := (blk_cell h.1 5).trans rfl
  have y6 : w.cell? ⟨g, 6, none⟩ = some (.slice A6 E.M.f6.length c6) := (blk_cell h.1 6).trans rfl
  have y7 : w.cell? ⟨g, 7, none⟩ = some (.slice A7 E.M.f7.length c7) := (blk_cell h.1 7).trans rfl
  have y8 : w.cell? ⟨g, 8, none⟩ = some (.slice PL E.L.length kL) := (blk_cell h.1 8).trans rfl
  have y12 := (blk_cell h.1 12).trans (stk_12 h.2.1 _ _ _)
  have HA : Hid (∀ w, Calls Tryz.prog 88 #[.int .i64 op] w (fun e w' => e = .returned (.tuple #[.int .i64 (Sp.accN op), .int .i64 (Sp.accT0 op), .bool (Sp.accS op), .bool false]) ∧ w = w')) := Lib.hid (fun w => by have := ops_Access op w; rw [hA] at this; exact this)
  have HO : Hid (∀ w, Calls Tryz.prog 87 #[.int .i64 op] w (fun e w' => e = .returned (.bool false) ∧ w = w')) := Lib.hid (fun w => by have := ops_Opens op w; rw [hO] at this; exact this)
  have HK := Lib.hid hK
  clear h hE hI hK hL hA hO
  go_enter Tryz.func46, Tryz.ntmps46
  go_wp2_with (first | ((go_at_call 88); (with_reducible refine (HA.out _).mono ?_); rintro e w' ⟨rfl, rfl⟩) | ((go_at_call 87); (with_reducible refine (HO.out _).mono ?_); rintro e w' ⟨rfl, rfl⟩) | ((go_at_call 43); (refine (check_there _ _ _).mono ?_); rintro e w' ⟨rfl, rfl⟩))
  go_quiet ((go_at_call 43; exact Calls.quiet_of_same ((check_there _ _ _).mono (fun _ _ h => ⟨h.1, h.2.symm⟩))))
  go_wp2_with fail
  go_ret
  exact ⟨rfl, (by repeat (first | exact Below.refl _ _ | refine below_alloc ?_ _ | refine pw_below_drewN ?_ _))⟩
theorem any_takeI {p : Int → Bool} {xs : List Int} {k : Nat} (h : (xs.take k).any p = false) (hx : k < xs.length) (he : p (rd xs (k : Int)) = false) : (xs.take (k + 1)).any p = false := by
  rw [List.take_succ_eq_append_getElem hx, List.any_append, h]
  simp [rd, List.getD_eq_getElem?_getD, hx] at he
  simp [he]
theorem any_atI {p : Int → Bool} {xs : List Int} {k : Nat} (hx : k < xs.length) (he : p (rd xs (k : Int)) = true) : xs.any p = true := by
  rw [List.any_eq_true]
  simp [rd, List.getD_eq_getElem?_getD, hx] at he
  exact ⟨xs[k], List.getElem_mem hx, he⟩
set_option maxRecDepth 100000 in
set_option maxHeartbeats 4000000 in
theorem known_14 (w : World) (base g : Nat) (E : Sp.Env) (cs : List Value) (vL v1 v2 : Value) (s : Sp.St) (vT vF : Value) (h : StkAt w base g (RowsD vL v1 v2) (cs ++ [vL, v1, v2]) s vT vF) (hE : EnvAt w base E cs vL v1 v2) (hI : Sp.SInv s) (a b n : Int) (A : Option Addr) (L : List Int) (c : Nat) (hL : IntsC w A L) (l4 : L.length ≤ 1000000) (op : Int) (hA : Sp.accB op = false) (hO : Sp.opens op = false) (b12 : (op == 12) = false) (b13 : (op == 13) = false) (b14 : (op == 14) = true) : Calls Tryz.prog 46 #[.pointer (some ⟨g, 0, none⟩), instV op a b n (.slice A L.length c)] w (BoolEnd (!L.any (fun n => !Sp.within n 0 ((s.F.length : Int) - 1))) w) := by
  have hK := env_K hE
  obtain ⟨A0, c0, A1, c1, A2, c2, A3, c3, A4, c4, A5, c5, A6, c6, A7, c7, rfl, -⟩ := kMod_open hK
  have hL := hE.choose_spec.2.2.2.1
  obtain ⟨PL, kL, rfl⟩ := Kd.R_slice hL
  obtain ⟨PF, kF, rfl⟩ := Kd.R_slice h.2.2.2.2.2.1
  obtain ⟨glt, -, -⟩ := stk_lt h
  have y0 : w.cell? ⟨g, 0, none⟩ = some (.slice A0 E.M.f0.length c0) := (blk_cell h.1 0).trans rfl
  have y1 : w.cell? ⟨g, 1, none⟩ = some (.slice A1 E.M.f1.length c1) := (blk_cell h.1 1).trans rfl
  have y2 : w.cell? ⟨g, 2, none⟩ = some (.slice A2 E.M.f2.length c2) := (blk_cell h.1 2).trans rfl
  have y3 : w.cell? ⟨g, 3, none⟩ = some (.slice A3 E.M.f3.length c3) := (blk_cell h.1 3).trans rfl
  have y4 : w.cell? ⟨g, 4, none⟩ = some (.slice A4 E.M.f4.length c4) := (blk_cell h.1 4).trans rfl
  have y5 : w.cell? ⟨g, 5, none⟩ = some (.slice A5 E.M.f5.length c5) := (blk_cell h.1 5).trans rfl
  have y6 : w.cell? ⟨g, 6, none⟩ = some (.slice A6 E.M.f6.length c6) := (blk_cell h.1 6).trans rfl
  have y7 : w.cell? ⟨g, 7, none⟩ = some (.slice A7 E.M.f7.length c7) := (blk_cell h.1 7).trans rfl
  have y8 : w.cell? ⟨g, 8, none⟩ = some (.slice PL E.L.length kL) := (blk_cell h.1 8).trans rfl
  have y12 := (blk_cell h.1 12).trans (stk_12 h.2.1 _ _ _)
  have HA : Hid (∀ w, Calls Tryz.prog 88 #[.int .i64 op] w (fun e w' => e = .returned (.tuple #[.int .i64 (Sp.accN op), .int .i64 (Sp.accT0 op), .bool (Sp.accS op), .bool false]) ∧ w = w')) := Lib.hid (fun w => by have := ops_Access op w; rw [hA] at this; exact this)
  have HO : Hid (∀ w, Calls Tryz.prog 87 #[.int .i64 op] w (fun e w' => e = .returned (.bool false) ∧ w = w')) := Lib.hid (fun w => by have := ops_Opens op w; rw [hO] at this; exact this)
  have HK := Lib.hid hK
  clear h hE hI hK hL hA hO
  have HL := Lib.hid hL
  clear hL
  go_enter Tryz.func46, Tryz.ntmps46
  go_wp2_with (first | ((go_at_call 88); (with_reducible refine (HA.out _).mono ?_); rintro e w' ⟨rfl, rfl⟩) | ((go_at_call 87); (with_reducible refine (HO.out _).mono ?_); rintro e w' ⟨rfl, rfl⟩) | ((go_at_call 43); (refine (check_there _ _ _).mono ?_); rintro e w' ⟨rfl, rfl⟩))
  clear y0 y1 y2 y3 y4 y5 y6 y7 y8
  have Y12 := Lib.hid y12
  clear y12
  go_loopw [66] (fun i wr => ∃ k : Nat, k ≤ L.length ∧ i = .int .i64 k ∧ Hid ((L.take k).any (fun n => !Sp.within n 0 ((s.F.length : Int) - 1)) = false) ∧ Hid (Below w.heap.size w wr)) (fun i _ => L.length - (intOf i).toNat)
  case atStart => exact ⟨0, by omega, rfl, Lib.hid rfl, Lib.hid (by repeat (first | exact Below.refl _ _ | refine below_alloc ?_ _ | refine pw_below_drewN ?_ _))⟩
  case round =>
    obtain ⟨k, hk, rfl, HT, HB⟩ := hrel
    rename_i wr _
    have y12 := (HB.out.cell (p := ⟨g, 12, none⟩) glt).trans Y12.out
    by_cases hlt : k < L.length
    · obtain ⟨ad, rfl, e0⟩ := Kd.at_int (Kd.C_below HL.out HB.out) (k : Int) (by omega) (by omega)
      rw [Int.toNat_natCast] at e0
      obtain ⟨x, hx⟩ : ∃ x, x = rd L (k : Int) := ⟨_, rfl⟩
      rw [← hx] at e0
      have HX := Lib.hid hx; clear hx
      obtain ⟨bb, hbb⟩ : ∃ bb, bb = Sp.within x 0 ((s.F.length : Int) - 1) := ⟨_, rfl⟩
      have HBB := Lib.hid hbb; clear hbb
      have HTH := Lib.hid (show ∀ W, Calls Tryz.prog 43 #[.int .i64 x, .int .i64 (s.F.length : Int)] W (fun e w' => e = .returned (.bool bb) ∧ W = w') from fun W => by rw [HBB.out]; exact check_there _ _ W)
      cases bb with
      | false =>
        go_wp2_with (first | ((go_at_call 43); (with_reducible refine (HTH.out _).mono ?_); rintro e w' ⟨rfl, rfl⟩))
        go_ret
        refine ⟨?_, HB.out⟩
        rw [any_atI hlt (by rw [← HX.out, ← HBB.out]; rfl)]
        rfl
      | true =>
        go_wp2_with (first | ((go_at_call 43); (with_reducible refine (HTH.out _).mono ?_); rintro e w' ⟨rfl, rfl⟩))
        go_roundw
        case rel => exact ⟨k + 1, by omega, by go_num, Lib.hid (any_takeI HT.out hlt (by rw [← HX.out, ← HBB.out]; rfl)), HB⟩
        case measure => simp [intOf]; omega
    · go_wp2_with fail
      go_ret
      refine ⟨?_, HB.out⟩
      have h := HT.out
      rw [List.take_of_length_le (by omega)] at h
      rw [h]
      rfl
end Go.Proofs.YthehihjcpiadgaaGreat
end
section
namespace Go.Proofs.YthehihjcpiadgaaGreat
open Go.RowKit Go.Proofs.YthehihjcpiadgaaGreatW.PrintWords
set_option linter.unusedSimpArgs false
set_option linter.unusedVariables false
theorem there_within (a m : Int) : Sp.there a m = Sp.within a 0 (m - 1) := by
  unfold Sp.there Sp.within
  rw [Bool.eq_iff_iff]; simp only [decide_eq_true_eq]; omega
theorem ne_beq {a b : Int} (h : ¬ a = b) : (a == b) = false := by simpa using h
theorem eq_beq {a b : Int} (h : a = b) : (a == b) = true := by simpa using h
theorem knownOk (E : Sp.Env) (i : SInst) (hs : SmallTys E.M.f0) (n1 : E.M.f1.length ≤ 1000000) (n2 : E.M.f2.length ≤ 1000000) (f0 : -2147483648 ≤ i.f1) (f9 : i.f1 ≤ 2147483647) (l4 : i.f4.length ≤ 1000000) : KnownOk E i := by
  intro w base g cs vL v1 v2 s vT vF A c h hE hI hL
  obtain ⟨op, a, b, n, L⟩ := i
  dsimp only at f0 f9 l4 hL ⊢
  cases hA : Sp.accB op with
  | true =>
    have hr := (Sp.accN_range op).2 (by have := of_decide_eq_true (show decide (0 < Sp.accN op) = true from hA); omega)
    have hO : Sp.opens op = false := by unfold Sp.opens Sp.within; exact decide_eq_false (by omega)
    have e : s.known E ⟨op, a, b, n, L⟩ = Sp.within a 0 ((E.M.f3.length : Int) - 1) := by
      unfold Sp.St.known; dsimp only; rw [if_neg (by simp [hO]), if_pos hA, there_within]
    rw [e]
    exact known_acc w base g E cs vL v1 v2 s vT vF h hE hI a b n A L.length c op hA hO
  | false =>
    cases hO : Sp.opens op with
    | true =>
      have e : s.known E ⟨op, a, b, n, L⟩ = (Sp.blockOf E.M a).isSome := by unfold Sp.St.known; dsimp only; rw [if_pos hO]
      rw [e]
      exact known_open w base g E cs vL v1 v2 s vT vF h hE hI a b n A L.length c op hA hO hs
    | false =>
      by_cases h12 : op = 12
      · have e : s.known E ⟨op, a, b, n, L⟩ = Sp.within a 0 ((s.F.length : Int) - 1) := by unfold Sp.St.known; dsimp only; rw [if_neg (by simp [hO]), if_neg (by simp [hA]), if_pos (by omega)]; rw [there_within]
        rw [e]
        exact known_12 w base g E cs vL v1 v2 s vT vF h hE hI a b n A L.length c op hA hO (eq_beq h12)
      by_cases h13 : op = 13
      · have e : s.known E ⟨op, a, b, n, L⟩ = Sp.within a 0 ((s.F.length : Int) - 1) := by unfold Sp.St.known; dsimp only; rw [if_neg (by simp [hO]), if_neg (by simp [hA]), if_pos (by omega)]; rw [there_within]
        rw [e]
        exact known_13 w base g E cs vL v1 v2 s vT vF h hE hI a b n A L.length c op hA hO (ne_beq h12) (eq_beq h13)
      by_cases h14 : op = 14
      · have e : s.known E ⟨op, a, b, n, L⟩ = (!L.any (fun n => !Sp.within n 0 ((s.F.length : Int) - 1))) := by unfold Sp.St.known; dsimp only; rw [if_neg (by simp [hO]), if_neg (by simp [hA]), if_neg (by omega), if_pos (by omega)]; simp only [there_within]
        rw [e]
        exact known_14 w base g E cs vL v1 v2 s vT vF h hE hI a b n A L c hL l4 op hA hO (ne_beq h12) (ne_beq h13) (eq_beq h14)
      by_cases h16 : op = 16
      · have e : s.known E ⟨op, a, b, n, L⟩ = (Sp.sigOf E.M a).isSome := by unfold Sp.St.known; dsimp only; rw [if_neg (by simp [hO]), if_neg (by simp [hA]), if_neg (by omega), if_neg (by omega), if_pos (by omega)]
        rw [e]
        exact known_16 w base g E cs vL v1 v2 s vT vF h hE hI a b n A L.length c op hA hO hs n1 n2 f0 f9 (ne_beq h12) (ne_beq h13) (ne_beq h14) (eq_beq h16)
      by_cases h18 : op = 18
      · have e : s.known E ⟨op, a, b, n, L⟩ = (Sp.sigOf E.M a).isSome := by unfold Sp.St.known; dsimp only; rw [if_neg (by simp [hO]), if_neg (by simp [hA]), if_neg (by omega), if_neg (by omega), if_pos (by omega)]
        rw [e]
        exact known_18 w base g E cs vL v1 v2 s vT vF h hE hI a b n A L.length c op hA hO hs n1 n2 f0 f9 (ne_beq h12) (ne_beq h13) (ne_beq h14) (ne_beq h16) (eq_beq h18)
      by_cases h32 : op = 32
      · have e : s.known E ⟨op, a, b, n, L⟩ = Sp.within a 0 ((E.L.length : Int) - 1) := by unfold Sp.St.known; dsimp only; rw [if_neg (by simp [hO]), if_neg (by simp [hA]), if_neg (by omega), if_neg (by omega), if_neg (by omega), if_pos (by omega)]; rw [there_within]
        rw [e]
        exact known_32 w base g E cs vL v1 v2 s vT vF h hE hI a b n A L.length c op hA hO (ne_beq h12) (ne_beq h13) (ne_beq h14) (ne_beq h16) (ne_beq h18) (eq_beq h32)
      by_cases h33 : op = 33
      · have e : s.known E ⟨op, a, b, n, L⟩ = Sp.within a 0 ((E.L.length : Int) - 1) := by unfold Sp.St.known; dsimp only; rw [if_neg (by simp [hO]), if_neg (by simp [hA]), if_neg (by omega), if_neg (by omega), if_neg (by omega), if_pos (by omega)]; rw [there_within]
        rw [e]
        exact known_33 w base g E cs vL v1 v2 s vT vF h hE hI a b n A L.length c op hA hO (ne_beq h12) (ne_beq h13) (ne_beq h14) (ne_beq h16) (ne_beq h18) (ne_beq h32) (eq_beq h33)
      by_cases h34 : op = 34
      · have e : s.known E ⟨op, a, b, n, L⟩ = Sp.within a 0 ((E.L.length : Int) - 1) := by unfold Sp.St.known; dsimp only; rw [if_neg (by simp [hO]), if_neg (by simp [hA]), if_neg (by omega), if_neg (by omega), if_neg (by omega), if_pos (by omega)]; rw [there_within]
        rw [e]
        exact known_34 w base g E cs vL v1 v2 s vT vF h hE hI a b n A L.length c op hA hO (ne_beq h12) (ne_beq h13) (ne_beq h14) (ne_beq h16) (ne_beq h18) (ne_beq h32) (ne_beq h33) (eq_beq h34)
      by_cases h35 : op = 35
      · have e : s.known E ⟨op, a, b, n, L⟩ = Sp.within a 0 ((E.M.f4.length : Int) - 1) := by unfold Sp.St.known; dsimp only; rw [if_neg (by simp [hO]), if_neg (by simp [hA]), if_neg (by omega), if_neg (by omega), if_neg (by omega), if_neg (by omega), if_pos (by omega)]; rw [there_within]
        rw [e]
        exact known_35 w base g E cs vL v1 v2 s vT vF h hE hI a b n A L.length c op hA hO (ne_beq h12) (ne_beq h13) (ne_beq h14) (ne_beq h16) (ne_beq h18) (ne_beq h32) (ne_beq h33) (ne_beq h34) (eq_beq h35)
      by_cases h36 : op = 36
      · have e : s.known E ⟨op, a, b, n, L⟩ = Sp.within a 0 ((E.M.f4.length : Int) - 1) := by unfold Sp.St.known; dsimp only; rw [if_neg (by simp [hO]), if_neg (by simp [hA]), if_neg (by omega), if_neg (by omega), if_neg (by omega), if_neg (by omega), if_pos (by omega)]; rw [there_within]
        rw [e]
        exact known_36 w base g E cs vL v1 v2 s vT vF h hE hI a b n A L.length c op hA hO (ne_beq h12) (ne_beq h13) (ne_beq h14) (ne_beq h16) (ne_beq h18) (ne_beq h32) (ne_beq h33) (ne_beq h34) (ne_beq h35) (eq_beq h36)
      by_cases h63 : op = 63
      · have e : s.known E ⟨op, a, b, n, L⟩ = Sp.within a 0 ((E.M.f3.length : Int) - 1) := by unfold Sp.St.known; dsimp only; rw [if_neg (by simp [hO]), if_neg (by simp [hA]), if_neg (by omega), if_neg (by omega), if_neg (by omega), if_neg (by omega), if_neg (by omega), if_pos (by omega)]; rw [there_within]
        rw [e]
        exact known_63 w base g E cs vL v1 v2 s vT vF h hE hI a b n A L.length c op hA hO (ne_beq h12) (ne_beq h13) (ne_beq h14) (ne_beq h16) (ne_beq h18) (ne_beq h32) (ne_beq h33) (ne_beq h34) (ne_beq h35) (ne_beq h36) (eq_beq h63)
      by_cases h64 : op = 64
      · have e : s.known E ⟨op, a, b, n, L⟩ = Sp.within a 0 ((E.M.f3.length : Int) - 1) := by unfold Sp.St.known; dsimp only; rw [if_neg (by simp [hO]), if_neg (by simp [hA]), if_neg (by omega), if_neg (by omega), if_neg (by omega), if_neg (by omega), if_neg (by omega), if_pos (by omega)]; rw [there_within]
        rw [e]
        exact known_64 w base g E cs vL v1 v2 s vT vF h hE hI a b n A L.length c op hA hO (ne_beq h12) (ne_beq h13) (ne_beq h14) (ne_beq h16) (ne_beq h18) (ne_beq h32) (ne_beq h33) (ne_beq h34) (ne_beq h35) (ne_beq h36) (ne_beq h63) (eq_beq h64)
      by_cases h64523 : op = 64523
      · have e : s.known E ⟨op, a, b, n, L⟩ = Sp.within a 0 ((E.M.f3.length : Int) - 1) := by unfold Sp.St.known; dsimp only; rw [if_neg (by simp [hO]), if_neg (by simp [hA]), if_neg (by omega), if_neg (by omega), if_neg (by omega), if_neg (by omega), if_neg (by omega), if_pos (by omega)]; rw [there_within]
        rw [e]
        exact known_64523 w base g E cs vL v1 v2 s vT vF h hE hI a b n A L.length c op hA hO (ne_beq h12) (ne_beq h13) (ne_beq h14) (ne_beq h16) (ne_beq h18) (ne_beq h32) (ne_beq h33) (ne_beq h34) (ne_beq h35) (ne_beq h36) (ne_beq h63) (ne_beq h64) (eq_beq h64523)
      by_cases h64520 : op = 64520
      · have e : s.known E ⟨op, a, b, n, L⟩ = (Sp.within a 0 ((E.M.f3.length : Int) - 1) && Sp.within b 0 ((E.M.f6.length : Int) - 1)) := by unfold Sp.St.known; dsimp only; rw [if_neg (by simp [hO]), if_neg (by simp [hA]), if_neg (by omega), if_neg (by omega), if_neg (by omega), if_neg (by omega), if_neg (by omega), if_neg (by omega), if_pos (by omega)]; rw [there_within, there_within]
        rw [e]
        cases wa : Sp.within a 0 ((E.M.f3.length : Int) - 1) with
        | true => rw [Bool.true_and]; exact known_64520_true w base g E cs vL v1 v2 s vT vF h hE hI a b n A L.length c op hA hO (ne_beq h12) (ne_beq h13) (ne_beq h14) (ne_beq h16) (ne_beq h18) (ne_beq h32) (ne_beq h33) (ne_beq h34) (ne_beq h35) (ne_beq h36) (ne_beq h63) (ne_beq h64) (ne_beq h64523) (eq_beq h64520) wa
        | false => rw [Bool.false_and]; exact known_64520_false w base g E cs vL v1 v2 s vT vF h hE hI a b n A L.length c op hA hO (ne_beq h12) (ne_beq h13) (ne_beq h14) (ne_beq h16) (ne_beq h18) (ne_beq h32) (ne_beq h33) (ne_beq h34) (ne_beq h35) (ne_beq h36) (ne_beq h63) (ne_beq h64) (ne_beq h64523) (eq_beq h64520) wa
      by_cases h64521 : op = 64521
      · have e : s.known E ⟨op, a, b, n, L⟩ = Sp.within a 0 ((E.M.f6.length : Int) - 1) := by unfold Sp.St.known; dsimp only; rw [if_neg (by simp [hO]), if_neg (by simp [hA]), if_neg (by omega), if_neg (by omega), if_neg (by omega), if_neg (by omega), if_neg (by omega), if_neg (by omega), if_neg (by omega), if_pos (by omega)]; rw [there_within]
        rw [e]
        exact known_64521 w base g E cs vL v1 v2 s vT vF h hE hI a b n A L.length c op hA hO (ne_beq h12) (ne_beq h13) (ne_beq h14) (ne_beq h16) (ne_beq h18) (ne_beq h32) (ne_beq h33) (ne_beq h34) (ne_beq h35) (ne_beq h36) (ne_beq h63) (ne_beq h64) (ne_beq h64523) (ne_beq h64520) (eq_beq h64521)
      by_cases h64522 : op = 64522
      · have e : s.known E ⟨op, a, b, n, L⟩ = (Sp.within a 0 ((E.M.f3.length : Int) - 1) && Sp.within b 0 ((E.M.f3.length : Int) - 1)) := by unfold Sp.St.known; dsimp only; rw [if_neg (by simp [hO]), if_neg (by simp [hA]), if_neg (by omega), if_neg (by omega), if_neg (by omega), if_neg (by omega), if_neg (by omega), if_neg (by omega), if_neg (by omega), if_neg (by omega), if_pos (by omega)]; rw [there_within, there_within]
        rw [e]
        cases wa : Sp.within a 0 ((E.M.f3.length : Int) - 1) with
        | true => rw [Bool.true_and]; exact known_64522_true w base g E cs vL v1 v2 s vT vF h hE hI a b n A L.length c op hA hO (ne_beq h12) (ne_beq h13) (ne_beq h14) (ne_beq h16) (ne_beq h18) (ne_beq h32) (ne_beq h33) (ne_beq h34) (ne_beq h35) (ne_beq h36) (ne_beq h63) (ne_beq h64) (ne_beq h64523) (ne_beq h64520) (ne_beq h64521) (eq_beq h64522) wa
        | false => rw [Bool.false_and]; exact known_64522_false w base g E cs vL v1 v2 s vT vF h hE hI a b n A L.length c op hA hO (ne_beq h12) (ne_beq h13) (ne_beq h14) (ne_beq h16) (ne_beq h18) (ne_beq h32) (ne_beq h33) (ne_beq h34) (ne_beq h35) (ne_beq h36) (ne_beq h63) (ne_beq h64) (ne_beq h64523) (ne_beq h64520) (ne_beq h64521) (eq_beq h64522) wa
      have e : s.known E ⟨op, a, b, n, L⟩ = true := by unfold Sp.St.known; dsimp only; rw [if_neg (by simp [hO]), if_neg (by simp [hA]), if_neg (by omega), if_neg (by omega), if_neg (by omega), if_neg (by omega), if_neg (by omega), if_neg (by omega), if_neg (by omega), if_neg (by omega), if_neg (by omega)]
      rw [e]
      exact known_else w base g E cs vL v1 v2 s vT vF h hE hI a b n A L.length c op hA hO (ne_beq h12) (ne_beq h13) (ne_beq h14) (ne_beq h16) (ne_beq h18) (ne_beq h32) (ne_beq h33) (ne_beq h34) (ne_beq h35) (ne_beq h36) (ne_beq h63) (ne_beq h64) (ne_beq h64523) (ne_beq h64520) (ne_beq h64521) (ne_beq h64522)
end Go.Proofs.YthehihjcpiadgaaGreat
end
section
namespace Go.Proofs.YthehihjcpiadgaaGreat
open Go.RowKit Go.Proofs.YthehihjcpiadgaaGreatW.PrintWords
set_option linter.unusedSimpArgs false
set_option linter.unusedVariables false
namespace Sp
/-- At most t types, n frames, each of at most eight. -/
def SInvN (t n : Nat) (s : St) : Prop := SInv s ∧ s.T.length ≤ t ∧ s.F.length ≤ n ∧ ∀ i : Int, 0 ≤ i → i < s.F.length → (rd_TFr s.F i).f1.f0.length ≤ 8 ∧ (rd_TFr s.F i).f1.f1.length ≤ 8
theorem sinvN_of {k : Nat} {s : St} (h : SInvK k s) : SInvN (8 * k) (k + 1) s := h
theorem sinvN_to {k : Nat} {s : St} (h : SInvN (8 * (k + 1)) (k + 2) s) : SInvK (k + 1) s := h
theorem SInvN.mono {t n t' n' : Nat} {s : St} (h : SInvN t n s) (ht : t ≤ t') (hn : n ≤ n') : SInvN t' n' s := ⟨h.1, by have := h.2.1; omega, by have := h.2.2.1; omega, h.2.2.2⟩
theorem SInvN.pop {t n : Nat} {s : St} (h : SInvN t n s) (l : List Int) : SInvN t n (s.pop l) :=
  ⟨sinv_pop h.1 l, Nat.le_trans (pop_T s l) h.2.1, by rw [pop_F]; exact h.2.2.1, by rw [pop_F]; exact h.2.2.2⟩
theorem SInvN.any {t n : Nat} {s : St} (h : SInvN t n s) : SInvN t n s.any.2 :=
  ⟨sinv_any h.1, Nat.le_trans (any_T s) h.2.1, by rw [any_F]; exact h.2.2.1, by rw [any_F]; exact h.2.2.2⟩
theorem SInvN.push {t n : Nat} {s : St} (h : SInvN t n s) (l : List Int) (m : Nat) (hm : l.length ≤ m) (hl : t + m ≤ 1000000) : SInvN (t + m) n (s.push l) := by
  obtain ⟨⟨h1, h2, h3, h4, h5⟩, ht, hn, hf⟩ := h
  refine ⟨⟨h1, h2, by simp [St.push]; omega, fun i h0 h9 => ?_, h5⟩, by simp [St.push]; omega, hn, hf⟩
  have := h4 i h0 h9
  refine ⟨this.1, ?_⟩
  simp only [St.push, List.length_append]
  have := this.2
  show (rd_TFr s.F i).f2 ≤ _
  omega
theorem SInvN.err {t n : Nat} {s : St} (h : SInvN t n s) (b : Bool) : SInvN t n (s.err b) := ⟨sinv_bad h.1 _, h.2⟩
theorem SInvN.bad {t n : Nat} {s : St} (h : SInvN t n s) (b : Bool) : SInvN t n ⟨s.T, s.F, b⟩ := ⟨sinv_bad h.1 _, h.2⟩
theorem rd_set (xs : List SFr) (j : Nat) (f : SFr) (i : Int) (h0 : 0 ≤ i) (hj : j < xs.length) : rd_TFr (xs.set j f) i = if i = (j : Int) then f else rd_TFr xs i := by
  unfold rd_TFr
  rw [List.getD_eq_getElem?_getD, List.getElem?_set]
  by_cases e : i = (j : Int)
  · subst e; simp [hj]
  · rw [if_neg (by omega), if_neg e, List.getD_eq_getElem?_getD]
theorem rd_take (xs : List SFr) (j : Nat) (i : Int) (h : i < j) (h0 : 0 ≤ i) : rd_TFr (xs.take j) i = rd_TFr xs i := by
  unfold rd_TFr
  rw [List.getD_eq_getElem?_getD, List.getElem?_take_of_lt (by omega), List.getD_eq_getElem?_getD]
theorem rd_snoc (xs : List SFr) (f : SFr) (i : Int) (h0 : 0 ≤ i) (h1 : i < (xs.length : Int) + 1) : rd_TFr (xs ++ [f]) i = if i = xs.length then f else rd_TFr xs i := by
  unfold rd_TFr
  by_cases e : i = (xs.length : Int)
  · rw [if_pos e, List.getD_eq_getElem?_getD, show i.toNat = xs.length by omega]; simp
  · rw [if_neg e, List.getD_eq_getElem?_getD, List.getElem?_append_left (by omega), List.getD_eq_getElem?_getD]
/-- The last frame's height. -/
theorem top_h {s : St} (h : SInv s) : 0 ≤ s.top.f2 ∧ s.top.f2 ≤ s.T.length := by
  obtain ⟨h1, h2, h3, h4, h5⟩ := h
  exact h4 ((s.F.length : Int) - 1) (by omega) (by omega)
theorem below_top {s : St} (h : SInv s) (i : Int) (h0 : 0 ≤ i) (h1 : i < s.F.length) : (rd_TFr s.F i).f2 ≤ s.top.f2 := by
  obtain ⟨g1, g2, g3, g4, g5⟩ := h
  exact g5 i ((s.F.length : Int) - 1) h0 (by omega) (by omega)
/-- What is above the last frame's height goes. -/
theorem SInvN.cut {t n : Nat} {s : St} (h : SInvN t n s) (b : Bool) : SInvN t n ⟨s.T.take s.top.f2.toNat, s.F, b⟩ := by
  have ht := top_h h.1
  have hb := fun i h0 h1 => below_top h.1 i h0 h1
  obtain ⟨⟨h1, h2, h3, h4, h5⟩, ht2, hn, hf⟩ := h
  refine ⟨⟨h1, h2, by simp only [List.length_take]; omega, fun i h0 h9 => ⟨(h4 i h0 h9).1, ?_⟩, h5⟩, by simp only [List.length_take]; omega, hn, hf⟩
  have := hb i h0 h9
  simp only [List.length_take]
  omega
/-- The last frame is another one, of the same height. -/
theorem SInvN.frame {t n : Nat} {s : St} (h : SInvN t n s) (f : SFr) (hf2 : f.f2 = s.top.f2) (h80 : f.f1.f0.length ≤ 8) (h81 : f.f1.f1.length ≤ 8) : SInvN t n ⟨s.T, s.F.set (s.F.length - 1) f, s.bad⟩ := by
  have ht : s.top = rd_TFr s.F ((s.F.length : Int) - 1) := rfl
  obtain ⟨⟨h1, h2, h3, h4, h5⟩, ht2, hn, hf⟩ := h
  have hh : ∀ i : Int, 0 ≤ i → i < s.F.length → (rd_TFr (s.F.set (s.F.length - 1) f) i).f2 = (rd_TFr s.F i).f2 := fun i h0 h9 => by
    rw [rd_set _ _ _ _ h0 (by omega)]
    split
    · rename_i e
      rw [hf2, ht, e]; congr 2; omega
    · rfl
  refine ⟨⟨by simpa using h1, by simpa using h2, h3, fun i h0 h9 => ?_, fun i j h0 hij h9 => ?_⟩, ht2, by simpa using hn, fun i h0 h9 => ?_⟩
  · simp only [List.length_set] at h9
    show 0 ≤ (rd_TFr (s.F.set (s.F.length - 1) f) i).f2 ∧ _
    rw [hh i h0 h9]; exact h4 i h0 h9
  · simp only [List.length_set] at h9
    show (rd_TFr (s.F.set (s.F.length - 1) f) i).f2 ≤ (rd_TFr (s.F.set (s.F.length - 1) f) j).f2
    rw [hh i h0 (by omega), hh j (by omega) h9]; exact h5 i j h0 hij h9
  · simp only [List.length_set] at h9
    show (rd_TFr (s.F.set (s.F.length - 1) f) i).f1.f0.length ≤ 8 ∧ _
    rw [rd_set _ _ _ _ h0 (by omega)]
    split
    · exact ⟨h80, h81⟩
    · exact hf i h0 h9
theorem SInvN.top8 {t n : Nat} {s : St} (h : SInvN t n s) : s.top.f1.f0.length ≤ 8 ∧ s.top.f1.f1.length ≤ 8 := h.2.2.2 _ (by have := h.1.1; omega) (by omega)
theorem SInvN.die {t n : Nat} {s : St} (h : SInvN t n s) : SInvN t n s.die := by
  have h1 := (SInvN.cut h s.bad)
  have h2 := SInvN.frame h1 ⟨s.top.f0, s.top.f1, s.top.f2, true⟩ rfl h.top8.1 h.top8.2
  exact h2
theorem pop_top (s : St) (l : List Int) : (s.pop l).top = s.top := by unfold St.top; rw [pop_F]
theorem leave_top (s : St) : s.leave.top = s.top := by unfold St.top St.leave; dsimp only; rw [pop_F]
theorem leave_T {s : St} (h : SInv s) : s.leave.T = (s.pop s.top.f1.f1).T.take s.top.f2.toNat := by
  unfold St.leave
  dsimp only
  have := top_h (sinv_pop h s.top.f1.f1)
  rw [pop_top] at this
  rw [Nat.min_eq_right (by omega)]
theorem SInvN.leave {t n : Nat} {s : St} (h : SInvN t n s) : SInvN t n s.leave := by
  have h1 := (h.pop s.top.f1.f1).cut (s.leave.bad)
  have e : s.leave = ⟨(s.pop s.top.f1.f1).T.take (s.pop s.top.f1.f1).top.f2.toNat, (s.pop s.top.f1.f1).F, s.leave.bad⟩ := by
    rw [pop_top, ← leave_T h.1]; rfl
  rw [e]; exact h1
theorem SInvN.less {t n : Nat} {s : St} (h : SInvN t n s) : SInvN t n s.less := by
  unfold St.less
  split
  · rename_i hl
    obtain ⟨⟨h1, h2, h3, h4, h5⟩, ht2, hn, hf⟩ := h
    refine ⟨⟨by simp only [List.length_take]; omega, by simp only [List.length_take]; omega, h3, fun i h0 h9 => ?_, fun i j h0 hij h9 => ?_⟩, ht2, by simp only [List.length_take]; omega, fun i h0 h9 => ?_⟩
    · simp only [List.length_take] at h9
      show 0 ≤ (rd_TFr (s.F.take (s.F.length - 1)) i).f2 ∧ _
      rw [rd_take _ _ _ (by omega) h0]; exact h4 i h0 (by omega)
    · simp only [List.length_take] at h9
      show (rd_TFr (s.F.take (s.F.length - 1)) i).f2 ≤ (rd_TFr (s.F.take (s.F.length - 1)) j).f2
      rw [rd_take _ _ _ (by omega) h0, rd_take _ _ _ (by omega) (by omega)]; exact h5 i j h0 hij (by omega)
    · simp only [List.length_take] at h9
      show (rd_TFr (s.F.take (s.F.length - 1)) i).f1.f0.length ≤ 8 ∧ _
      rw [rd_take _ _ _ (by omega) h0]; exact hf i h0 (by omega)
  · exact h
theorem SInvN.end_ {t n : Nat} {s : St} (h : SInvN t n s) (hl : t + 8 ≤ 1000000) : SInvN (t + 8) n s.end_ :=
  ((h.leave.err _).less).push _ 8 h.top8.2 hl
theorem SInvN.other {t n : Nat} {s : St} (h : SInvN t n s) (hl : t + 8 ≤ 1000000) : SInvN (t + 8) n s.other := by
  have h2 := h.leave.frame ⟨5, s.top.f1, s.top.f2, false⟩ (by rw [leave_top]) h.top8.1 h.top8.2
  exact h2.push _ 8 h.top8.1 hl
theorem SInvN.open1 {t n : Nat} {s : St} (h : SInvN t n s) (op : Int) (ty : STy) (hn : n + 1 ≤ 100000) (h80 : ty.f0.length ≤ 8) (h81 : ty.f1.length ≤ 8) : SInvN t (n + 1) ⟨s.T, s.F ++ [⟨op, ty, s.T.length, false⟩], s.bad⟩ := by
  obtain ⟨⟨h1, h2, h3, h4, h5⟩, ht2, hn, hf⟩ := h
  refine ⟨⟨by simp, by simp; omega, h3, fun i h0 h9 => ?_, fun i j h0 hij h9 => ?_⟩, ht2, by simp; omega, fun i h0 h9 => ?_⟩
  · simp only [List.length_append, List.length_singleton] at h9
    show 0 ≤ (rd_TFr (s.F ++ [⟨op, ty, s.T.length, false⟩]) i).f2 ∧ (rd_TFr (s.F ++ [⟨op, ty, s.T.length, false⟩]) i).f2 ≤ (s.T.length : Int)
    rw [rd_snoc _ _ _ h0 (by omega)]
    split
    · dsimp only; omega
    · exact h4 i h0 (by omega)
  · simp only [List.length_append, List.length_singleton] at h9
    show (rd_TFr (s.F ++ [⟨op, ty, s.T.length, false⟩]) i).f2 ≤ (rd_TFr (s.F ++ [⟨op, ty, s.T.length, false⟩]) j).f2
    rw [rd_snoc _ _ _ h0 (by omega), rd_snoc _ _ _ (by omega) (by omega)]
    by_cases ej : j = (s.F.length : Int)
    · rw [if_pos ej]
      by_cases ei : i = (s.F.length : Int)
      · rw [if_pos ei]; exact Int.le_refl _
      · rw [if_neg ei]; exact (h4 i h0 (by omega)).2
    · rw [if_neg ej, if_neg (by omega)]; exact h5 i j h0 hij (by omega)
  · simp only [List.length_append, List.length_singleton] at h9
    show (rd_TFr (s.F ++ [⟨op, ty, s.T.length, false⟩]) i).f1.f0.length ≤ 8 ∧ _
    rw [rd_snoc _ _ _ h0 (by omega)]
    split
    · exact ⟨h80, h81⟩
    · exact hf i h0 (by omega)
theorem SInvN.open_ {t n : Nat} {s : St} (h : SInvN t n s) (op : Int) (ty : STy) (hl : t + 8 ≤ 1000000) (hn : n + 1 ≤ 100000) (h80 : ty.f0.length ≤ 8) (h81 : ty.f1.length ≤ 8) : SInvN (t + 8) (n + 1) (s.open_ op ty) := by
  unfold St.open_
  have h1 : SInvN t n ((if op = 4 then s.pop [127] else s).pop ty.f0) := by
    refine SInvN.pop ?_ _
    split
    · exact h.pop _
    · exact h
  exact (h1.open1 op ty hn h80 h81).push _ 8 h80 hl
theorem SInvN.chosen {t n : Nat} {s : St} (h : SInvN t n s) (hl : t + 8 ≤ 1000000) : SInvN (t + 8) n s.chosen := by
  unfold St.chosen
  exact (((h.pop [127]).any.any).err _).push _ 8 (by simp) hl
theorem SInvN.plain {t n : Nat} {s : St} (h : SInvN t n s) (op : Int) (hl : t + 8 ≤ 1000000) : SInvN (t + 8) n (s.plain op) := by
  have hp := numR_length op
  unfold St.plain
  (repeat' split)
  · exact (h.pop _).mono (by omega) (Nat.le_refl _)
  · exact (h.pop _).push _ 8 (by simp) hl
  · exact h.push _ 8 (by simp) hl
  · exact (h.pop _).push _ 8 (by omega) hl
  · exact h.push _ 8 (by simp) hl
  · exact (h.pop _).push _ 8 (by simp) hl
  · exact (h.pop _).mono (by omega) (Nat.le_refl _)
  · exact h.mono (by omega) (Nat.le_refl _)
end Sp
end Go.Proofs.YthehihjcpiadgaaGreat
end
section
namespace Go.Proofs.YthehihjcpiadgaaGreat
open Go.RowKit Go.Proofs.YthehihjcpiadgaaGreatW.PrintWords
set_option linter.unusedSimpArgs false
set_option linter.unusedVariables false
namespace Sp
theorem inst_bounds {i : SInst} (h : instOk i = true) : -2147483648 ≤ i.f1 ∧ i.f1 ≤ 2147483647 ∧ i.f4.length ≤ 1000000 := by
  unfold instOk at h
  simp only [Bool.and_eq_true, Bool.or_eq_true, decide_eq_true_eq] at h
  obtain ⟨hk, hs, hA, hB, hN, hL⟩ := h
  have h4 : i.f4.length ≤ 1000000 := by
    rcases hL with hL | hL
    · have h14 : i.f0 = 14 := of_decide_eq_true hL
      unfold shapeOk at hs
      have e1 : opens i.f0 = false := by rw [h14]; rfl
      have e2 : accB i.f0 = false := by rw [h14]; rfl
      rw [if_neg (by simp [e1]), if_neg (by simp [e2]), if_neg (by rw [h14]; decide), if_neg (by omega), if_pos h14] at hs
      simp only [Bool.and_eq_true, decide_eq_true_eq] at hs
      omega
    · omega
  by_cases ha : askA i.f0 = true
  · unfold shapeOk at hs
    unfold askA at ha
    simp only [Bool.or_eq_true, decide_eq_true_eq] at ha
    unfold within at hs
    by_cases e1 : opens i.f0 = true
    · rw [if_pos e1] at hs
      have := of_decide_eq_true hs
      omega
    · by_cases e2 : accB i.f0 = true
      · rw [if_neg e1, if_pos e2] at hs
        simp only [Bool.and_eq_true, decide_eq_true_eq] at hs
        omega
      · rw [if_neg e1, if_neg e2] at hs
        have ha2 : i.f0 = 12 ∨ i.f0 = 13 ∨ i.f0 = 16 ∨ i.f0 = 18 ∨ (32 ≤ i.f0 ∧ i.f0 ≤ 36) ∨ i.f0 = 63 ∨ i.f0 = 64 ∨ (64520 ≤ i.f0 ∧ i.f0 ≤ 64523) := by
          rcases ha with (q | q) | q
          · exact absurd q e1
          · exact q
          · exact absurd q e2
        clear ha
        have hc : constT i.f0 = 0 := by
          by_cases q : constT i.f0 = 0
          · exact q
          · have := (constT_range i.f0).2 q
            omega
        rw [if_neg (by simp [hc])] at hs
        (repeat' split at hs) <;> (try simp only [Bool.and_eq_true, decide_eq_true_eq] at hs) <;> first | omega | (refine ⟨?_, ?_, h4⟩ <;> omega) | (exfalso; omega)
  · have := hA.resolve_left ha
    omega
theorem sig_mem {M : SMod} {f : Int} {t : STy} (h : sigOf M f = some t) : ∃ j : Nat, j < M.f0.length ∧ t = rd_TTy M.f0 (j : Int) := by
  unfold sigOf at h
  cases hf : fnType M f with
  | none => rw [hf] at h; cases h
  | some k =>
    rw [hf] at h
    change tyAt M k = some t at h
    unfold tyAt at h
    split at h
    · injection h with h
      exact ⟨k.toNat, by omega, by rw [← h]; congr 1; omega⟩
    · cases h
theorem sig_typed {M : SMod} (hk : RightOk M) {f : Int} {t : STy} (h : sigOf M f = some t) : typed t = true := by
  obtain ⟨j, hj, rfl⟩ := sig_mem h
  exact hk.ty j hj
theorem sig_some {M : SMod} (hi : indices M = true) (j : Nat) (hj : j < M.f2.length) : ∃ t, sigOf M ((M.f1.length : Int) + j) = some t := by
  unfold indices indA at hi
  simp only [Bool.and_eq_true, List.all_eq_true] at hi
  have := hi.1 (M.f1.length + j) (List.mem_range.2 (by omega))
  rw [show ((M.f1.length + j : Nat) : Int) = (M.f1.length : Int) + j by omega] at this
  exact Option.isSome_iff_exists.1 this
end Sp
theorem check_Func_ok (M : SMod) (cs : List Value) (j : Nat) (p : Int) (w : World) (hM : kMod.K w M cs) (hk : Sp.RightOk M) (hi : Sp.indices M = true) (hj : j < M.f2.length) (hp : p = 1 ∨ p = 2)
    (hSt : ∀ k : Nat, k < (rd_TFun M.f2 (j : Int)).f2.length → StepOk (Sp.envOf M j) (rd_TInst (rd_TFun M.f2 (j : Int)).f2 (k : Int))) :
    Calls Tryz.prog 21 #[.agg cs.toArray, .int .i64 (j : Int), .int .i64 p] w (FuncEnd (Sp.runOf M (decide (p = 1)) j) w) := by
  obtain ⟨t, ht⟩ := Sp.sig_some hi j hj
  have h8 := Sp.typed_len (Sp.sig_typed hk ht)
  have hc := Sp.coded_len (hk.fn j hj)
  have h12 := hk.n12
  have e : Sp.envOf M j = ⟨M, t.f0 ++ (rd_TFun M.f2 (j : Int)).f1, t⟩ := by unfold Sp.envOf; rw [ht]; rfl
  have hKn : ∀ k : Nat, k < (rd_TFun M.f2 (j : Int)).f2.length → KnownOk ⟨M, t.f0 ++ (rd_TFun M.f2 (j : Int)).f1, t⟩ (rd_TInst (rd_TFun M.f2 (j : Int)).f2 (k : Int)) := fun k hk2 => by
    have hb := Sp.inst_bounds (hc.2.2.2.2.2 k hk2)
    exact knownOk _ _ (small_tys hk) (by dsimp only; omega) (by dsimp only; omega) hb.1 hb.2.1 hb.2.2
  have er : ∀ pl, Sp.runOf M pl j = Sp.run ⟨M, t.f0 ++ (rd_TFun M.f2 (j : Int)).f1, t⟩ pl (rd_TFun M.f2 (j : Int)).f2 0 (Sp.begin ⟨M, t.f0 ++ (rd_TFun M.f2 (j : Int)).f1, t⟩) := fun pl => by unfold Sp.runOf; rw [e]
  rw [er]
  rw [e] at hSt
  rcases hp with rfl | rfl
  · exact check_Func_1 M cs (j : Int) w hM (by omega) (by omega) (small_tys hk) (by omega) (by omega) t ht (by omega) (by omega) (by omega) (by omega) hKn hSt
  · exact check_Func_2 M cs (j : Int) w hM (by omega) (by omega) (small_tys hk) (by omega) (by omega) t ht (by omega) (by omega) (by omega) (by omega) hKn hSt
/-- check.Module: why a module may not be. -/
theorem check_Module_ok (M : SMod) (cs : List Value) (p : Int) (w : World) (hM : kMod.K w M cs) (n1 : M.f1.length ≤ 140737488355328) (n2 : M.f2.length ≤ 140737488355328) (hsz : ∀ i : Int, (rd_TExp M.f5 i).f0.size ≤ maxLen)
    (hSt : Sp.RightOk M → Sp.matchOf M = 0 → Sp.indices M = true → ∀ j : Nat, j < M.f2.length → ∀ k : Nat, k < (rd_TFun M.f2 (j : Int)).f2.length → StepOk (Sp.envOf M j) (rd_TInst (rd_TFun M.f2 (j : Int)).f2 (k : Int))) :
    Calls Tryz.prog 18 #[.agg cs.toArray, .int .i64 p] w (ErrEnd (Sp.moduleErr M p) w) := by
  by_cases h1 : p = 1
  · subst h1
    exact check_Module_1 M cs w hM n1 n2 hsz (fun hk hm hi j hj W hb => check_Func_ok M cs j 1 W (Kd.K_below kMod hb hM) hk hi hj (.inl rfl) (hSt hk hm hi j hj))
  · by_cases h2 : p = 2
    · subst h2
      exact check_Module_2 M cs w hM n1 n2 hsz (fun hk hm hi j hj W hb => check_Func_ok M cs j 2 W (Kd.K_below kMod hb hM) hk hi hj (.inr rfl) (hSt hk hm hi j hj))
    · exact check_Module_arg M cs p w hM h1 h2
end Go.Proofs.YthehihjcpiadgaaGreat
end
section
namespace Go.Proofs.YthehihjcpiadgaaGreat
open Go.RowKit Go.Proofs.YthehihjcpiadgaaGreatW.PrintWords
set_option linter.unusedSimpArgs false
set_option linter.unusedVariables false
theorem stepOk_0 (E : Sp.Env) (i : SInst) (h : i.f0 = 0) : StepOk E i := by
  intro k w base g cs vL v1 v2 s vT vF A c hS hE hI hk hkn hL
  have e : s.step E i = s.die := by unfold Sp.St.step; rw [if_pos h]
  rw [e]
  exact ⟨step_0 w base g _ _ s.die vT vF i.f1 i.f2 i.f3 A _ c _ i.f0 h (stacks_die _ base g _ _ s vT vF (stk_alloc hS _) hI.1), Sp.sinvN_to ((Sp.SInvN.die (Sp.sinvN_of hI)).mono (by omega) (by omega))⟩
theorem stepOk_26 (E : Sp.Env) (i : SInst) (h : i.f0 = 26) : StepOk E i := by
  intro k w base g cs vL v1 v2 s vT vF A c hS hE hI hk hkn hL
  have e : s.step E i = s.any.2 := by
    unfold Sp.St.step; rw [h]; rfl
  rw [e]
  exact ⟨step_26 w base g _ _ s.any.2 vT vF i.f1 i.f2 i.f3 A _ c _ i.f0 h (stacks_any _ base g _ _ s vT vF (stk_alloc hS _) hI.1), Sp.sinvN_to ((Sp.SInvN.any (Sp.sinvN_of hI)).mono (by omega) (by omega))⟩
theorem stepOk_11 (E : Sp.Env) (i : SInst) (h : i.f0 = 11) : StepOk E i := by
  intro k w base g cs vL v1 v2 s vT vF A c hS hE hI hk hkn hL
  have e : s.step E i = s.end_ := by
    unfold Sp.St.step; rw [h]; rfl
  rw [e]
  have h8 := Sp.SInvN.leave (Sp.sinvN_of hI)
  have h9 := Sp.SInvN.top8 (Sp.sinvN_of hI)
  exact ⟨step_11 w base g _ _ s.end_ vT vF i.f1 i.f2 i.f3 A _ c _ i.f0 h (stacks_end _ base g _ _ s vT vF (stk_alloc hS _) hI.1 (by have := h8.2.1; have := h9.2; omega)), Sp.sinvN_to ((Sp.SInvN.end_ (Sp.sinvN_of hI) (by omega)).mono (by omega) (by omega))⟩
theorem stepOk_plain (E : Sp.Env) (i : SInst) (h0 : ¬ i.f0 = 0) (h2 : ¬ i.f0 = 2) (h3 : ¬ i.f0 = 3) (h4 : ¬ i.f0 = 4) (h5 : ¬ i.f0 = 5) (h11 : ¬ i.f0 = 11) (h12 : ¬ i.f0 = 12) (h13 : ¬ i.f0 = 13) (h14 : ¬ i.f0 = 14) (h15 : ¬ i.f0 = 15) (h16 : ¬ i.f0 = 16) (h18 : ¬ i.f0 = 18) (h26 : ¬ i.f0 = 26) (h27 : ¬ i.f0 = 27) (h32 : ¬ i.f0 = 32) (h33 : ¬ i.f0 = 33) (h34 : ¬ i.f0 = 34) (h35 : ¬ i.f0 = 35) (h36 : ¬ i.f0 = 36) : StepOk E i := by
  intro k w base g cs vL v1 v2 s vT vF A c hS hE hI hk hkn hL
  have e : s.step E i = s.plain i.f0 := by
    unfold Sp.St.step
    rw [if_neg h0, if_neg (by simp only [Sp.opens, Sp.within, decide_eq_true_eq]; omega), if_neg h5, if_neg h11, if_neg (by omega), if_neg (by omega), if_neg h26, if_neg h27, if_neg (by omega)]
  rw [e]
  exact ⟨step_else w base g _ _ (s.plain i.f0) vT vF i.f1 i.f2 i.f3 A _ c _ i.f0 (ne_beq h0) (ne_beq h2) (ne_beq h3) (ne_beq h4) (ne_beq h5) (ne_beq h11) (ne_beq h12) (ne_beq h13) (ne_beq h14) (ne_beq h15) (ne_beq h16) (ne_beq h18) (ne_beq h26) (ne_beq h27) (ne_beq h32) (ne_beq h33) (ne_beq h34) (ne_beq h35) (ne_beq h36) (stacks_plain _ base g _ _ s vT vF (stk_alloc hS _) hI.1 (by have := hI.2.1; omega) (by have := base_le hE; simp; omega) i.f0), Sp.sinvN_to ((Sp.SInvN.plain (Sp.sinvN_of hI) i.f0 (by omega)).mono (by omega) (by omega))⟩
end Go.Proofs.YthehihjcpiadgaaGreat
end
section
namespace Go.Proofs.YthehihjcpiadgaaGreat
open Go.RowKit Go.Proofs.YthehihjcpiadgaaGreatW.PrintWords
set_option linter.unusedSimpArgs false
set_option linter.unusedVariables false
theorem C_lit {α : Type} (d : Kd α) {W : World} {g e : Nat} {xs : List α} {cs : List Value} (hb : W.heap[g]? = some (.cells cs.toArray e (0, 0))) (hr : Reps (d.K W) d.sz xs cs) (hl : xs.length ≤ 1000000) : d.C W (some ⟨g, 0, none⟩) xs.length xs := by
  refine ⟨rfl, by omega, fun _ => ⟨_, rfl, fun j p hj => ⟨(cs.drop (j * d.sz)).take d.sz, ?_, hr.2 j p hj, fun i u hu => ?_⟩⟩⟩
  · have hj2 := (List.getElem?_eq_some_iff.1 hj).1
    have h1 : j * d.sz + d.sz ≤ cs.length := by rw [hr.1, ← Nat.succ_mul]; exact Nat.mul_le_mul_right _ hj2
    rw [List.length_take, List.length_drop]
    omega
  · rw [List.getElem?_take, List.getElem?_drop] at hu
    split at hu
    · have h2 := blk_cell hb (j * d.sz + i)
      have ea : (⟨g, 0, none⟩ : Addr).add (j * d.sz + i) = ⟨g, j * d.sz + i, none⟩ := by simp [Addr.add]; try omega
      rw [ea, h2, List.getElem?_toArray]
      exact hu
    · cases hu
theorem C_nil {α : Type} (d : Kd α) (W : World) (A : Option Addr) : d.C W A 0 [] := ⟨rfl, by omega, fun h => by omega⟩
/-- The cells of instructions without labels. -/
def instCells (c : List SInst) : List Value := c.flatMap fun i => [.int .i64 i.f0, .int .i64 i.f1, .int .i64 i.f2, .int .u64 i.f3, .slice none 0 0]
theorem reps_inst (W : World) : ∀ (c : List SInst), (∀ i ∈ c, i.f4 = []) → Reps (kInst.K W) kInst.sz c (instCells c)
  | [], _ => Reps.none _ _
  | i :: c, h => by
    have h4 := h i List.mem_cons_self
    have hk : kInst.K W i [.int .i64 i.f0, .int .i64 i.f1, .int .i64 i.f2, .int .u64 i.f3, .slice none 0 0] := by
      have := kInst_mk W i (A4 := none) (c4 := 0) (by rw [h4]; exact Nat.le_refl _) (by rw [h4]; exact C_nil _ _ _)
      rw [h4] at this
      exact this
    exact Reps.front (R := kInst.K W) (size := kInst.sz) hk rfl (reps_inst W c (fun j hj => h j (List.mem_cons_of_mem _ hj))) rfl
/-- A module of one function, that takes and gives nothing, of a code. -/
def litM (c : List SInst) : SMod := ⟨[⟨[], []⟩], [], [⟨0, [], c⟩], [], [], [], [], []⟩
def litCs (B0 B2 : Nat) : List Value := [.slice (some ⟨B0, 0, none⟩) 1 1, .slice none 0 0, .slice (some ⟨B2, 0, none⟩) 1 1, .slice none 0 0, .slice none 0 0, .slice none 0 0, .slice none 0 0, .slice none 0 0]
theorem lit_K {W : World} {B0 B1 B2 : Nat} {c : List SInst} (h0 : W.heap[B0]? = some (.cells #[.slice none 0 0, .slice none 0 0] 40 (0, 0))) (h1 : W.heap[B1]? = some (.cells (instCells c).toArray 25 (0, 0)))
    (h2 : W.heap[B2]? = some (.cells #[.int .i64 0, .slice none 0 0, .slice (some ⟨B1, 0, none⟩) c.length c.length] 59 (0, 0))) (h4 : ∀ i ∈ c, i.f4 = []) (hl : c.length ≤ 1000000) : kMod.K W (litM c) (litCs B0 B2) := by
  have k0 : kTy.C W (some ⟨B0, 0, none⟩) 1 [⟨[], []⟩] := C_lit kTy (xs := [⟨[], []⟩]) (cs := [.slice none 0 0, .slice none 0 0]) h0 (Reps.front (R := kTy.K W) (size := kTy.sz) (kTy_mk W ⟨[], []⟩ (A0 := none) (c0 := 0) (A1 := none) (c1 := 0) (Nat.le_refl _) (C_nil _ _ _) (Nat.le_refl _) (C_nil _ _ _)) rfl (Reps.none _ _) rfl) (by decide)
  have k1 : kInst.C W (some ⟨B1, 0, none⟩) c.length c := C_lit kInst h1 (reps_inst W c h4) hl
  have k2 : kFun.C W (some ⟨B2, 0, none⟩) 1 [⟨0, [], c⟩] := C_lit kFun (xs := [⟨0, [], c⟩]) (cs := [.int .i64 0, .slice none 0 0, .slice (some ⟨B1, 0, none⟩) c.length c.length]) h2 (Reps.front (R := kFun.K W) (size := kFun.sz) (kFun_mk W ⟨0, [], c⟩ (A1 := none) (c1 := 0) (A2 := some ⟨B1, 0, none⟩) (c2 := c.length) (Nat.le_refl _) (C_nil _ _ _) (Nat.le_refl _) k1) rfl (Reps.none _ _) rfl) (by show (1 : Nat) ≤ 1000000; omega)
  exact kMod_mk W (litM c) (A0 := some ⟨B0, 0, none⟩) (c0 := 1) (A1 := none) (c1 := 0) (A2 := some ⟨B2, 0, none⟩) (c2 := 1) (A3 := none) (c3 := 0) (A4 := none) (c4 := 0) (A5 := none) (c5 := 0) (A6 := none) (c6 := 0) (A7 := none) (c7 := 0) (Nat.le_refl _) k0 (Nat.le_refl _) (C_nil _ _ _) (Nat.le_refl _) k2 (Nat.le_refl _) (C_nil _ _ _) (Nat.le_refl _) (C_nil _ _ _) (Nat.le_refl _) (C_nil _ _ _) (Nat.le_refl _) (C_nil _ _ _) (Nat.le_refl _) (C_nil _ _ _)
/-- The module of nothing. -/
def noM : SMod := ⟨[], [], [], [], [], [], [], []⟩
theorem no_K (W : World) : kMod.K W noM [.slice none 0 0, .slice none 0 0, .slice none 0 0, .slice none 0 0, .slice none 0 0, .slice none 0 0, .slice none 0 0, .slice none 0 0] :=
  kMod_mk W noM (A0 := none) (c0 := 0) (A1 := none) (c1 := 0) (A2 := none) (c2 := 0) (A3 := none) (c3 := 0) (A4 := none) (c4 := 0) (A5 := none) (c5 := 0) (A6 := none) (c6 := 0) (A7 := none) (c7 := 0) (Nat.le_refl _) (C_nil _ _ _) (Nat.le_refl _) (C_nil _ _ _) (Nat.le_refl _) (C_nil _ _ _) (Nat.le_refl _) (C_nil _ _ _) (Nat.le_refl _) (C_nil _ _ _) (Nat.le_refl _) (C_nil _ _ _) (Nat.le_refl _) (C_nil _ _ _) (Nat.le_refl _) (C_nil _ _ _)
/-- Instructions whose step is known: unreachable, drop, end, and what takes and gives by its op alone. -/
def easy (op : Int) : Bool := decide (op = 0 ∨ op = 26 ∨ op = 11 ∨ ¬ (op = 2 ∨ op = 3 ∨ op = 4 ∨ op = 5 ∨ op = 12 ∨ op = 13 ∨ op = 14 ∨ op = 15 ∨ op = 16 ∨ op = 18 ∨ op = 27 ∨ op = 32 ∨ op = 33 ∨ op = 34 ∨ op = 35 ∨ op = 36))
theorem stepOk_easy (E : Sp.Env) (i : SInst) (h : easy i.f0 = true) : StepOk E i := by
  have h := of_decide_eq_true h
  by_cases h0 : i.f0 = 0
  · exact stepOk_0 E i h0
  by_cases h26 : i.f0 = 26
  · exact stepOk_26 E i h26
  by_cases h11 : i.f0 = 11
  · exact stepOk_11 E i h11
  exact stepOk_plain E i h0 (by omega) (by omega) (by omega) (by omega) h11 (by omega) (by omega) (by omega) (by omega) (by omega) (by omega) h26 (by omega) (by omega) (by omega) (by omega) (by omega) (by omega)
theorem lit_steps {c : List SInst} (hc : c.all (fun i => easy i.f0) = true) (j : Nat) (hj : j < (litM c).f2.length) (k : Nat) (hk : k < (rd_TFun (litM c).f2 (j : Int)).f2.length) : StepOk (Sp.envOf (litM c) j) (rd_TInst (rd_TFun (litM c).f2 (j : Int)).f2 (k : Int)) := by
  have hj0 : j = 0 := by have : (litM c).f2.length = 1 := rfl; omega
  subst hj0
  change k < c.length at hk
  show StepOk _ (rd_TInst c (k : Int))
  have e : rd_TInst c (k : Int) = c[k] := by simp [rd_TInst, List.getD_eq_getElem?_getD, hk]
  rw [List.all_eq_true] at hc
  exact stepOk_easy _ _ (by rw [e]; exact hc _ (List.getElem_mem hk))
theorem lit_Module {c : List SInst} (hc : c.all (fun i => easy i.f0) = true) (cs : List Value) (p : Int) (w : World) (hM : kMod.K w (litM c) cs) : Calls Tryz.prog 18 #[.agg cs.toArray, .int .i64 p] w (ErrEnd (Sp.moduleErr (litM c) p) w) :=
  check_Module_ok (litM c) cs p w hM (by show (0 : Nat) ≤ _; omega) (by show (1 : Nat) ≤ _; omega) (fun i => by unfold rd_TExp litM; simp [zExp, maxLen]; decide) (fun _ _ _ j hj k hk => lit_steps hc j hj k hk)
theorem no_Module (p : Int) (w : World) (cs : List Value) (hM : kMod.K w noM cs) : Calls Tryz.prog 18 #[.agg cs.toArray, .int .i64 p] w (ErrEnd (Sp.moduleErr noM p) w) :=
  check_Module_ok noM cs p w hM (by decide) (by decide) (fun i => by unfold rd_TExp noM; simp [zExp, maxLen]; decide) (fun _ _ _ j hj => by have : noM.f2.length = 0 := rfl; omega)
theorem lit_Func {c : List SInst} (hc : c.all (fun i => easy i.f0) = true) (cs : List Value) (p : Int) (hp : p = 1 ∨ p = 2) (w : World) (hM : kMod.K w (litM c) cs) (hk : Sp.right (litM c) = 0) : Calls Tryz.prog 21 #[.agg cs.toArray, .int .i64 0, .int .i64 p] w (FuncEnd (Sp.runOf (litM c) (decide (p = 1)) 0) w) :=
  check_Func_ok (litM c) cs 0 p w hM (Sp.right_ok hk) (by rfl) (by show (0 : Nat) < 1; omega) hp (fun k hk => lit_steps hc 0 (by show (0 : Nat) < 1; omega) k hk)
end Go.Proofs.YthehihjcpiadgaaGreat
end
section
namespace Go.Proofs.YthehihjcpiadgaaGreat
open Go.RowKit Go.Proofs.YthehihjcpiadgaaGreatW.PrintWords
set_option linter.unusedSimpArgs false
set_option linter.unusedVariables false
namespace Dd
def ins (op : Int) : SInst := ⟨op, 0, 0, 0, []⟩
def mM (o : Int) : List SInst := [ins 0, ins o, ins 26, ins 11]
def nM (o : Int) : List SInst := [ins 1, ins o, ins 26, ins 11]
def okB (o : Int) : Bool :=
  decide (Sp.moduleErr (litM (mM o)) 2 = 0) && decide (Sp.moduleErr (litM (nM o)) 2 = 14) && decide (Sp.runOf (litM (nM o)) false 0 = (1, 14)) &&
  (if Sp.rich o then decide (Sp.moduleErr (litM (mM o)) 1 = 24) else decide (Sp.moduleErr (litM (mM o)) 1 = 0) && decide (Sp.moduleErr (litM (nM o)) 1 = 14) && decide (Sp.runOf (litM (nM o)) true 0 = (1, 14)))
/-- The numeric ones of the first k from 69 on. -/
def nums : Nat → List Int
  | 0 => []
  | k + 1 => if Sp.numB (69 + (k : Int)) then nums k ++ [69 + (k : Int)] else nums k
theorem nums_len : (nums 128).length = 96 := by decide +kernel
end Dd
end Go.Proofs.YthehihjcpiadgaaGreat
end
section
namespace Go.Proofs.YthehihjcpiadgaaGreat
open Go.RowKit Go.Proofs.YthehihjcpiadgaaGreatW.PrintWords
set_option linter.unusedSimpArgs false
set_option linter.unusedVariables false
namespace Dd
def k1 : List SInst := [ins 65, ins 106, ins 26, ins 11]
def k2 : List SInst := [ins 0, ins 106, ins 26, ins 11]
theorem k1_easy : k1.all (fun i => easy i.f0) = true := by decide
theorem k2_easy : k2.all (fun i => easy i.f0) = true := by decide
theorem k1_right : Sp.right (litM k1) = 0 := by decide +kernel
theorem k1_run : Sp.runOf (litM k1) (decide ((2 : Int) = 1)) 0 = (1, 14) := by decide +kernel
theorem k2_plain : Sp.moduleErr (litM k2) 1 = 0 := by decide +kernel
theorem k2_arg : Sp.moduleErr (litM k2) 3 = 1 := by decide +kernel
theorem no_plain : Sp.moduleErr noM 1 = 0 := by decide +kernel
end Dd
theorem heap_size_alloc (w : World) (o : Obj) : (w.alloc o).heap.size = w.heap.size + 1 := by simp
/-- Five cells of a block are stored. -/
theorem blk_set5 {W : World} {B t : Nat} {cs : Array Value} (h : W.heap[B]? = some (.cells cs t (0, 0))) (a b c d e : Value) :
    (((((W.setCell ⟨B, 0, none⟩ a).setCell ⟨B, 1, none⟩ b).setCell ⟨B, 2, none⟩ c).setCell ⟨B, 3, none⟩ d).setCell ⟨B, 4, none⟩ e).heap[B]? = some (.cells (((((cs.setIfInBounds 0 a).setIfInBounds 1 b).setIfInBounds 2 c).setIfInBounds 3 d).setIfInBounds 4 e) t (0, 0)) :=
  blk_set (blk_set (blk_set (blk_set (blk_set h 0 a) 1 b) 2 c) 3 d) 4 e
theorem heap_setB (W : World) (B k : Nat) (h : k ≠ B) (a b c d e : Value) : (((((W.setCell ⟨B, 0, none⟩ a).setCell ⟨B, 1, none⟩ b).setCell ⟨B, 2, none⟩ c).setCell ⟨B, 3, none⟩ d).setCell ⟨B, 4, none⟩ e).heap[k]? = W.heap[k]? :=
  (Below.heap_setCell _ ⟨B, 4, none⟩ e k h).trans ((Below.heap_setCell _ ⟨B, 3, none⟩ d k h).trans ((Below.heap_setCell _ ⟨B, 2, none⟩ c k h).trans ((Below.heap_setCell _ ⟨B, 1, none⟩ b k h).trans (Below.heap_setCell _ ⟨B, 0, none⟩ a k h))))
set_option maxRecDepth 100000 in
set_option maxHeartbeats 8000000 in
theorem law10_known (w : World) : Calls Tryz.prog 15 #[] w (BoolEnd true w) := by
  obtain ⟨W0, hW0⟩ : ∃ W0, W0 = ((((w.alloc (.cells #[.slice none 0 0, .slice none 0 0] 40)).alloc (.cells #[.int .i64 65, .int .i64 0, .int .i64 0, .int .u64 0, .slice none 0 0, .int .i64 106, .int .i64 0, .int .i64 0, .int .u64 0, .slice none 0 0, .int .i64 26, .int .i64 0, .int .i64 0, .int .u64 0, .slice none 0 0, .int .i64 11, .int .i64 0, .int .i64 0, .int .u64 0, .slice none 0 0] 25)).alloc (.cells #[.int .i64 0, .slice none 0 0, .slice (some ⟨w.heap.size + 1, 0, none⟩) 4 4] 59)).alloc (.cells #[.slice (some ⟨w.heap.size, 0, none⟩) 1 1, .slice none 0 0, .slice (some ⟨w.heap.size + 1 + 1, 0, none⟩) 1 1, .slice none 0 0, .slice none 0 0, .slice none 0 0, .slice none 0 0, .slice none 0 0] 37)) := ⟨_, rfl⟩
  have z : W0.heap.size = w.heap.size + 4 := by rw [hW0]; simp
  have x0 : W0.heap[w.heap.size]? = some (.cells #[.slice none 0 0, .slice none 0 0] 40 (0, 0)) := by rw [hW0]; exact blk_alloc (blk_alloc (blk_alloc (heap_alloc_new w _) _) _) _
  have x1 : W0.heap[w.heap.size + 1]? = some (.cells #[.int .i64 65, .int .i64 0, .int .i64 0, .int .u64 0, .slice none 0 0, .int .i64 106, .int .i64 0, .int .i64 0, .int .u64 0, .slice none 0 0, .int .i64 26, .int .i64 0, .int .i64 0, .int .u64 0, .slice none 0 0, .int .i64 11, .int .i64 0, .int .i64 0, .int .u64 0, .slice none 0 0] 25 (0, 0)) := by rw [hW0]; have := heap_alloc_new (w.alloc (.cells #[.slice none 0 0, .slice none 0 0] 40)) (.cells #[.int .i64 65, .int .i64 0, .int .i64 0, .int .u64 0, .slice none 0 0, .int .i64 106, .int .i64 0, .int .i64 0, .int .u64 0, .slice none 0 0, .int .i64 26, .int .i64 0, .int .i64 0, .int .u64 0, .slice none 0 0, .int .i64 11, .int .i64 0, .int .i64 0, .int .u64 0, .slice none 0 0] 25); rw [heap_size_alloc] at this; exact blk_alloc (blk_alloc this _) _
  have x2 : W0.heap[w.heap.size + 1 + 1]? = some (.cells #[.int .i64 0, .slice none 0 0, .slice (some ⟨w.heap.size + 1, 0, none⟩) 4 4] 59 (0, 0)) := by rw [hW0]; have := heap_alloc_new ((w.alloc (.cells #[.slice none 0 0, .slice none 0 0] 40)).alloc (.cells #[.int .i64 65, .int .i64 0, .int .i64 0, .int .u64 0, .slice none 0 0, .int .i64 106, .int .i64 0, .int .i64 0, .int .u64 0, .slice none 0 0, .int .i64 26, .int .i64 0, .int .i64 0, .int .u64 0, .slice none 0 0, .int .i64 11, .int .i64 0, .int .i64 0, .int .u64 0, .slice none 0 0] 25)) (.cells #[.int .i64 0, .slice none 0 0, .slice (some ⟨w.heap.size + 1, 0, none⟩) 4 4] 59); rw [heap_size_alloc, heap_size_alloc] at this; exact blk_alloc this _
  have x3 : W0.heap[w.heap.size + 1 + 1 + 1]? = some (.cells #[.slice (some ⟨w.heap.size, 0, none⟩) 1 1, .slice none 0 0, .slice (some ⟨w.heap.size + 1 + 1, 0, none⟩) 1 1, .slice none 0 0, .slice none 0 0, .slice none 0 0, .slice none 0 0, .slice none 0 0] 37 (0, 0)) := by rw [hW0]; have := heap_alloc_new (((w.alloc (.cells #[.slice none 0 0, .slice none 0 0] 40)).alloc (.cells #[.int .i64 65, .int .i64 0, .int .i64 0, .int .u64 0, .slice none 0 0, .int .i64 106, .int .i64 0, .int .i64 0, .int .u64 0, .slice none 0 0, .int .i64 26, .int .i64 0, .int .i64 0, .int .u64 0, .slice none 0 0, .int .i64 11, .int .i64 0, .int .i64 0, .int .u64 0, .slice none 0 0] 25)).alloc (.cells #[.int .i64 0, .slice none 0 0, .slice (some ⟨w.heap.size + 1, 0, none⟩) 4 4] 59)) (.cells #[.slice (some ⟨w.heap.size, 0, none⟩) 1 1, .slice none 0 0, .slice (some ⟨w.heap.size + 1 + 1, 0, none⟩) 1 1, .slice none 0 0, .slice none 0 0, .slice none 0 0, .slice none 0 0, .slice none 0 0] 37); rw [heap_size_alloc, heap_size_alloc, heap_size_alloc] at this; exact this
  have hb0 : Below w.heap.size w W0 := by rw [hW0]; exact below_alloc (below_alloc (below_alloc (below_alloc (Below.refl _ _) _) _) _) _
  have HF : Hid (Calls Tryz.prog 21 #[.agg #[.slice (some ⟨w.heap.size, 0, none⟩) 1 1, .slice none 0 0, .slice (some ⟨w.heap.size + 1 + 1, 0, none⟩) 1 1, .slice none 0 0, .slice none 0 0, .slice none 0 0, .slice none 0 0, .slice none 0 0], .int .i64 0, .int .i64 2] W0 (FuncEnd (1, 14) W0)) := Lib.hid (by have := lit_Func Dd.k1_easy (litCs (w.heap.size) (w.heap.size + 1 + 1)) 2 (.inr rfl) W0 (lit_K (c := Dd.k1) (B1 := w.heap.size + 1) x0 x1 x2 (by decide) (by decide)) Dd.k1_right; rw [Dd.k1_run] at this; exact this)
  have HX := Lib.hid (And.intro x0 (And.intro x1 (And.intro x2 x3))); have HB0 := Lib.hid hb0; have HZ := Lib.hid z
  rw [hW0] at HF
  have HW0 := Lib.hid hW0
  clear x0 x1 x2 x3 hb0 z hW0
  go_enter Tryz.func15, Tryz.ntmps15
  go_wp2_with (first | ((go_at_call 21); (with_reducible refine HF.out.mono ?_); rintro e w1 ⟨rfl, hb⟩; rw [← HW0.out] at hb; have hz := hb.size; have HB1 := Lib.hid hb; clear hb; have y0 := (HB1.out.block (w.heap.size) (by have := HZ.out; omega)).trans HX.out.1; have y1 := (HB1.out.block (w.heap.size + 1) (by have := HZ.out; omega)).trans HX.out.2.1; have y2 := (HB1.out.block (w.heap.size + 1 + 1) (by have := HZ.out; omega)).trans HX.out.2.2.1; have y3 := (HB1.out.block (w.heap.size + 1 + 1 + 1) (by have := HZ.out; omega)).trans HX.out.2.2.2; have HY := Lib.hid (And.intro y0 (And.intro y1 (And.intro y2 y3))); have c3_0 := (blk_cell y3 0).trans rfl; have c3_1 := (blk_cell y3 1).trans rfl; have c3_2 := (blk_cell y3 2).trans rfl; have c3_3 := (blk_cell y3 3).trans rfl; have c3_4 := (blk_cell y3 4).trans rfl; have c3_5 := (blk_cell y3 5).trans rfl; have c3_6 := (blk_cell y3 6).trans rfl; have c3_7 := (blk_cell y3 7).trans rfl; have c2_2 := (blk_cell y2 2).trans rfl; have c1_0 := (blk_cell y1 0).trans rfl; have f1_0 := blk_frozen y1 0; have c1_1 := (blk_cell y1 1).trans rfl; have f1_1 := blk_frozen y1 1; have c1_2 := (blk_cell y1 2).trans rfl; have f1_2 := blk_frozen y1 2; have c1_3 := (blk_cell y1 3).trans rfl; have f1_3 := blk_frozen y1 3; have c1_4 := (blk_cell y1 4).trans rfl; have f1_4 := blk_frozen y1 4; clear y0 y1 y2 y3))
  have hs1 := HB1.out.size
  have hbx : Below w.heap.size w ((((((w1.setCell ⟨w.heap.size + 1, 0, none⟩ (.int .i64 0)).setCell ⟨w.heap.size + 1, 1, none⟩ (.int .i64 0)).setCell ⟨w.heap.size + 1, 2, none⟩ (.int .i64 0)).setCell ⟨w.heap.size + 1, 3, none⟩ (.int .u64 0)).setCell ⟨w.heap.size + 1, 4, none⟩ (.slice none 0 0))) := below_set (below_set (below_set (below_set (below_set (below_then HB0.out (by have := HZ.out; omega) HB1.out) (by show w.heap.size ≤ w.heap.size + 1; omega)) (by show w.heap.size ≤ w.heap.size + 1; omega)) (by show w.heap.size ≤ w.heap.size + 1; omega)) (by show w.heap.size ≤ w.heap.size + 1; omega)) (by show w.heap.size ≤ w.heap.size + 1; omega)
  have y0 : ((((((w1.setCell ⟨w.heap.size + 1, 0, none⟩ (.int .i64 0)).setCell ⟨w.heap.size + 1, 1, none⟩ (.int .i64 0)).setCell ⟨w.heap.size + 1, 2, none⟩ (.int .i64 0)).setCell ⟨w.heap.size + 1, 3, none⟩ (.int .u64 0)).setCell ⟨w.heap.size + 1, 4, none⟩ (.slice none 0 0))).heap[w.heap.size]? = some (.cells #[.slice none 0 0, .slice none 0 0] 40 (0, 0)) := (heap_setB w1 _ _ (by omega) _ _ _ _ _).trans HY.out.1
  have y1 : ((((((w1.setCell ⟨w.heap.size + 1, 0, none⟩ (.int .i64 0)).setCell ⟨w.heap.size + 1, 1, none⟩ (.int .i64 0)).setCell ⟨w.heap.size + 1, 2, none⟩ (.int .i64 0)).setCell ⟨w.heap.size + 1, 3, none⟩ (.int .u64 0)).setCell ⟨w.heap.size + 1, 4, none⟩ (.slice none 0 0))).heap[w.heap.size + 1]? = some (.cells #[.int .i64 0, .int .i64 0, .int .i64 0, .int .u64 0, .slice none 0 0, .int .i64 106, .int .i64 0, .int .i64 0, .int .u64 0, .slice none 0 0, .int .i64 26, .int .i64 0, .int .i64 0, .int .u64 0, .slice none 0 0, .int .i64 11, .int .i64 0, .int .i64 0, .int .u64 0, .slice none 0 0] 25 (0, 0)) := blk_set5 HY.out.2.1 _ _ _ _ _
  have y2 : ((((((w1.setCell ⟨w.heap.size + 1, 0, none⟩ (.int .i64 0)).setCell ⟨w.heap.size + 1, 1, none⟩ (.int .i64 0)).setCell ⟨w.heap.size + 1, 2, none⟩ (.int .i64 0)).setCell ⟨w.heap.size + 1, 3, none⟩ (.int .u64 0)).setCell ⟨w.heap.size + 1, 4, none⟩ (.slice none 0 0))).heap[w.heap.size + 1 + 1]? = some (.cells #[.int .i64 0, .slice none 0 0, .slice (some ⟨w.heap.size + 1, 0, none⟩) 4 4] 59 (0, 0)) := (heap_setB w1 _ _ (by omega) _ _ _ _ _).trans HY.out.2.2.1
  have y3 : ((((((w1.setCell ⟨w.heap.size + 1, 0, none⟩ (.int .i64 0)).setCell ⟨w.heap.size + 1, 1, none⟩ (.int .i64 0)).setCell ⟨w.heap.size + 1, 2, none⟩ (.int .i64 0)).setCell ⟨w.heap.size + 1, 3, none⟩ (.int .u64 0)).setCell ⟨w.heap.size + 1, 4, none⟩ (.slice none 0 0))).heap[w.heap.size + 1 + 1 + 1]? = some (.cells #[.slice (some ⟨w.heap.size, 0, none⟩) 1 1, .slice none 0 0, .slice (some ⟨w.heap.size + 1 + 1, 0, none⟩) 1 1, .slice none 0 0, .slice none 0 0, .slice none 0 0, .slice none 0 0, .slice none 0 0] 37 (0, 0)) := (heap_setB w1 _ _ (by omega) _ _ _ _ _).trans HY.out.2.2.2
  clear c3_0 c3_1 c3_2 c3_3 c3_4 c3_5 c3_6 c3_7 c2_2 c1_0 f1_0 c1_1 f1_1 c1_2 f1_2 c1_3 f1_3 c1_4 f1_4 hs1 hz
  generalize ((((((w1.setCell ⟨w.heap.size + 1, 0, none⟩ (.int .i64 0)).setCell ⟨w.heap.size + 1, 1, none⟩ (.int .i64 0)).setCell ⟨w.heap.size + 1, 2, none⟩ (.int .i64 0)).setCell ⟨w.heap.size + 1, 3, none⟩ (.int .u64 0)).setCell ⟨w.heap.size + 1, 4, none⟩ (.slice none 0 0))) = W2 at hbx y0 y1 y2 y3 ⊢
  have HBX := Lib.hid hbx
  clear hbx
  have HM1 : Hid (∀ W, Below W2.heap.size W2 W → Calls Tryz.prog 18 #[.agg #[.slice (some ⟨w.heap.size, 0, none⟩) 1 1, .slice none 0 0, .slice (some ⟨w.heap.size + 1 + 1, 0, none⟩) 1 1, .slice none 0 0, .slice none 0 0, .slice none 0 0, .slice none 0 0, .slice none 0 0], .int .i64 1] W (ErrEnd 0 W)) := Lib.hid (fun W hb => by have := lit_Module Dd.k2_easy (litCs w.heap.size (w.heap.size + 1 + 1)) 1 W (lit_K (c := Dd.k2) (B1 := w.heap.size + 1) ((hb.block _ (blk_lt y0)).trans y0) ((hb.block _ (blk_lt y1)).trans y1) ((hb.block _ (blk_lt y2)).trans y2) (by decide) (by decide)); rw [Dd.k2_plain] at this; exact this)
  have HM3 : Hid (∀ W, Below W2.heap.size W2 W → Calls Tryz.prog 18 #[.agg #[.slice (some ⟨w.heap.size, 0, none⟩) 1 1, .slice none 0 0, .slice (some ⟨w.heap.size + 1 + 1, 0, none⟩) 1 1, .slice none 0 0, .slice none 0 0, .slice none 0 0, .slice none 0 0, .slice none 0 0], .int .i64 3] W (ErrEnd 1 W)) := Lib.hid (fun W hb => by have := lit_Module Dd.k2_easy (litCs w.heap.size (w.heap.size + 1 + 1)) 3 W (lit_K (c := Dd.k2) (B1 := w.heap.size + 1) ((hb.block _ (blk_lt y0)).trans y0) ((hb.block _ (blk_lt y1)).trans y1) ((hb.block _ (blk_lt y2)).trans y2) (by decide) (by decide)); rw [Dd.k2_arg] at this; exact this)
  have HNO : Hid (∀ W, Calls Tryz.prog 18 #[.agg #[.slice none 0 0, .slice none 0 0, .slice none 0 0, .slice none 0 0, .slice none 0 0, .slice none 0 0, .slice none 0 0, .slice none 0 0], .int .i64 1] W (ErrEnd 0 W)) := Lib.hid (fun W => by have := no_Module 1 W _ (no_K W); rw [Dd.no_plain] at this; exact this)
  have HY3 := Lib.hid y3
  clear y0 y1 y2 y3 HY HX HW0 HZ HF
  refine (HNO.out _).mono ?_
  rintro e w3 ⟨rfl, hb3⟩
  have y3 := (hb3.block _ (blk_lt HY3.out)).trans HY3.out
  have c3_0 := (blk_cell y3 0).trans rfl
  have c3_1 := (blk_cell y3 1).trans rfl
  have c3_2 := (blk_cell y3 2).trans rfl
  have c3_3 := (blk_cell y3 3).trans rfl
  have c3_4 := (blk_cell y3 4).trans rfl
  have c3_5 := (blk_cell y3 5).trans rfl
  have c3_6 := (blk_cell y3 6).trans rfl
  have c3_7 := (blk_cell y3 7).trans rfl
  have HB3 := Lib.hid hb3
  clear hb3 y3
  go_wp2_with (first | ((go_at_call 18); (with_reducible refine (HM1.out _ HB3.out).mono ?_); rintro e w4 ⟨rfl, hb⟩; have HB4 := Lib.hid (below_then HB3.out HB3.out.size hb); have y3 := (HB4.out.block _ (blk_lt HY3.out)).trans HY3.out; have d3_0 := (blk_cell y3 0).trans rfl; have d3_1 := (blk_cell y3 1).trans rfl; have d3_2 := (blk_cell y3 2).trans rfl; have d3_3 := (blk_cell y3 3).trans rfl; have d3_4 := (blk_cell y3 4).trans rfl; have d3_5 := (blk_cell y3 5).trans rfl; have d3_6 := (blk_cell y3 6).trans rfl; have d3_7 := (blk_cell y3 7).trans rfl; clear hb y3) | ((go_at_call 18); (with_reducible refine (HM3.out _ HB4.out).mono ?_); rintro e w5 ⟨rfl, hb⟩; have HB5 := Lib.hid (below_then HB4.out HB4.out.size hb); clear hb))
  go_ret
  exact ⟨rfl, below_then HBX.out HBX.out.size HB5.out⟩
end Go.Proofs.YthehihjcpiadgaaGreat
end
section
namespace Go.Proofs.YthehihjcpiadgaaGreat
open Go.RowKit Go.Proofs.YthehihjcpiadgaaGreatW.PrintWords Go.Proofs.YthehihjcpiadgaaGreatW.PrintLast
set_option linter.unusedSimpArgs false
set_option linter.unusedVariables false
namespace Dd
theorem nums_true (k : Nat) (h : Sp.numB (69 + (k : Int)) = true) : nums (k + 1) = nums k ++ [69 + (k : Int)] := by
  show (if _ then _ else _) = _; rw [if_pos h]
theorem nums_false (k : Nat) (h : Sp.numB (69 + (k : Int)) = false) : nums (k + 1) = nums k := by
  show (if _ then _ else _) = _; rw [if_neg (by simp [h])]
theorem nums_le (k : Nat) : (nums k).length ≤ k := by
  induction k with
  | zero => exact Nat.le_refl _
  | succ k ih =>
    show (if _ then _ else _ : List Int).length ≤ _
    split
    · simp; omega
    · omega
theorem nums_easy : (nums 128).all (fun o => okB o && easy o && decide (Sp.right (litM (nM o)) = 0)) = true := by decide +kernel
/-- An index is in its row. -/
theorem index (op : Int) : ∃ ix : Nat, (wrap64 (op.tmod 96 + 96)).tmod 96 = (ix : Int) ∧ ix < 96 := by
  have h1 : -96 < op.tmod 96 ∧ op.tmod 96 < 96 := by
    constructor
    · have := Int.tmod_lt_of_pos (-op) (show (0 : Int) < 96 by decide)
      rw [Int.neg_tmod] at this; omega
    · exact Int.tmod_lt_of_pos op (by decide)
  rw [Tx.w64 (by omega) (by omega), Int.tmod_eq_emod_of_nonneg (by omega)]
  exact ⟨((op.tmod 96 + 96) % 96).toNat, by omega, by omega⟩
theorem num_at (ix : Nat) (h : ix < 96) : (okB (rd (nums 128) (ix : Int)) = true ∧ Sp.right (litM (nM (rd (nums 128) (ix : Int)))) = 0) ∧ easy (rd (nums 128) (ix : Int)) = true := by
  have hl := nums_len
  have hm : rd (nums 128) (ix : Int) ∈ nums 128 := by
    generalize nums 128 = l at hl
    have e : rd l (ix : Int) = l[ix] := by simp [rd, List.getD_eq_getElem?_getD, hl, h]
    rw [e]; exact List.getElem_mem _
  have := List.all_eq_true.1 nums_easy _ hm
  simp only [Bool.and_eq_true, decide_eq_true_eq] at this
  exact ⟨⟨this.1.1, this.2⟩, this.1.2⟩
theorem m_easy (x : Int) (h : easy x = true) : (mM x).all (fun i => easy i.f0) = true := by
  simp only [mM, List.all_cons, List.all_nil, ins, h]; decide
theorem n_easy (x : Int) (h : easy x = true) : (nM x).all (fun i => easy i.f0) = true := by
  simp only [nM, List.all_cons, List.all_nil, ins, h]; decide
theorem m_four (x : Int) : ∀ i ∈ mM x, i.f4 = [] := by
  intro i hi; simp only [mM, List.mem_cons, List.not_mem_nil, or_false] at hi
  rcases hi with rfl | rfl | rfl | rfl <;> rfl
theorem n_four (x : Int) : ∀ i ∈ nM x, i.f4 = [] := by
  intro i hi; simp only [nM, List.mem_cons, List.not_mem_nil, or_false] at hi
  rcases hi with rfl | rfl | rfl | rfl <;> rfl
theorem n_right (x : Int) (h : okB x = true ∧ Sp.right (litM (nM x)) = 0) : Sp.right (litM (nM x)) = 0 := h.2
theorem ok_rich {x : Int} (h : okB x = true ∧ Sp.right (litM (nM x)) = 0) (hr : Sp.rich x = true) : Sp.moduleErr (litM (mM x)) 2 = 0 ∧ Sp.moduleErr (litM (nM x)) 2 = 14 ∧ Sp.runOf (litM (nM x)) (decide ((2 : Int) = 1)) 0 = (1, 14) ∧ Sp.moduleErr (litM (mM x)) 1 = 24 := by
  have h := h.1
  unfold okB at h
  rw [if_pos hr] at h
  simp only [Bool.and_eq_true, decide_eq_true_eq] at h
  exact ⟨h.1.1.1, h.1.1.2, h.1.2, h.2⟩
theorem ok_plain {x : Int} (h : okB x = true ∧ Sp.right (litM (nM x)) = 0) (hr : Sp.rich x = false) : Sp.moduleErr (litM (mM x)) 2 = 0 ∧ Sp.moduleErr (litM (nM x)) 2 = 14 ∧ Sp.runOf (litM (nM x)) (decide ((2 : Int) = 1)) 0 = (1, 14) ∧ Sp.moduleErr (litM (mM x)) 1 = 0 ∧ Sp.moduleErr (litM (nM x)) 1 = 14 ∧ Sp.runOf (litM (nM x)) (decide ((1 : Int) = 1)) 0 = (1, 14) := by
  have h := h.1
  unfold okB at h
  rw [if_neg (by simp [hr])] at h
  simp only [Bool.and_eq_true, decide_eq_true_eq] at h
  exact ⟨h.1.1.1, h.1.1.2, h.1.2, h.2.1.1, h.2.1.2, h.2.2⟩
end Dd
set_option maxRecDepth 100000 in
set_option maxHeartbeats 16000000 in
theorem law10_CheckDead (op : Int) (rich : Bool) (h0 : -9223372036854775808 ≤ op) (h1 : op ≤ 9223372036854775807) (w : World) : Calls Tryz.prog 7 #[.int .i64 op, .bool rich] w (BoolEnd true w) := by
  go_enter Tryz.func7, Tryz.ntmps7
  go_wp2_with fail
  go_loopw [5, 6] (fun v i wr => ∃ (k : Nat), k ≤ 128 ∧ i = .int .i64 (69 + (k : Int)) ∧ Hid ((Kd.int .i64).R 3 wr w.heap.size (fun _ => True) v (Dd.nums k)) ∧ Hid (Below w.heap.size w wr)) (fun _ i _ => 197 - (intOf i).toNat)
  case atStart => exact ⟨0, by omega, rfl, Lib.hid (Kd.R_nil _ _ _ _ _), Lib.hid (Below.refl _ _)⟩
  case round =>
    obtain ⟨k, hk, rfl, HR, HB⟩ := hrel
    rename_i wr _
    obtain ⟨P, kT, rfl⟩ := Kd.R_slice HR.out
    by_cases hlt : k < 128
    · have hle : 69 + (k : Int) ≤ 196 := by omega
      cases hb : Sp.numB (69 + (k : Int)) with
      | false =>
        have HNUM : Hid (∀ W, Calls Tryz.prog 19 #[.int .i64 (69 + (k : Int))] W (IsNumEnd false W)) := Lib.hid (fun W => by have := ref3_IsNumeric (69 + (k : Int)) W _ _ rfl rfl; rw [show (Sp.isInt (69 + (k : Int)) || Sp.isFlt (69 + (k : Int))) = false from hb] at this; exact this)
        have HNT := Lib.hid (Dd.nums_false k hb)
        clear hb
        go_wp2_with (first | ((go_at_call 19); (with_reducible refine (HNUM.out _).mono ?_); rintro e w1 ⟨v1, v2, rfl, hb⟩; have HB1 := Lib.hid (below_then HB.out HB.out.size hb); have HR1 := Lib.hid (Kd.R_below HR.out hb); clear hb))
        go_roundw
        case rel => exact ⟨k + 1, by omega, by go_num, Lib.hid (by rw [HNT.out]; exact HR1.out), HB1⟩
        case measure => simp [intOf]; omega
      | true =>
        have HNUM : Hid (∀ W, Calls Tryz.prog 19 #[.int .i64 (69 + (k : Int))] W (IsNumEnd true W)) := Lib.hid (fun W => by have := ref3_IsNumeric (69 + (k : Int)) W _ _ rfl rfl; rw [show (Sp.isInt (69 + (k : Int)) || Sp.isFlt (69 + (k : Int))) = true from hb] at this; exact this)
        have HNT := Lib.hid (Dd.nums_true k hb)
        clear hb
        go_wp2_with (first | ((go_at_call 19); (with_reducible refine (HNUM.out _).mono ?_); rintro e w1 ⟨v1, v2, rfl, hb⟩; have HB1 := Lib.hid (below_then HB.out HB.out.size hb); have HR1 := Lib.hid (Kd.R_below HR.out hb); clear hb) | (at_builtin; (refine Kd.R_append (Kd.int .i64) (w0 := w) (W := w1) w.heap.size rfl (.tmp 27) (.tmp 29) 23 3 (.int .i64 0) 8 rfl Tryz.underlying23 infoInt rfl Nat.zero_lt_one (Nat.zero_lt_succ 7) (.slice P (Dd.nums k).length kT) (Dd.nums k) (69 + (k : Int)) [.int .i64 (69 + (k : Int))] (fun _ => True) (fun _ => False) rfl rfl rfl (fun _ h => h.elim) (fun _ _ => trivial) HR1.out HB1.out HB1.out.size ?hl ?_); (case hl => have := Dd.nums_le k; simp; omega); intro v3 w3 hR hB hG hat; rw [← HNT.out] at hR; obtain ⟨P3, k3, rfl⟩ := Kd.R_slice hR; have HR3 := Lib.hid hR; have HB3 := Lib.hid hB; clear hR hB hG hat))
        go_roundw
        case rel => exact ⟨k + 1, by omega, by go_num, HR3, HB3⟩
        case measure => simp [intOf]; omega
    · obtain rfl : k = 128 := by omega
      have hge : ¬ (69 + ((128 : Nat) : Int) ≤ 196) := by omega
      rw [Dd.nums_len]
      obtain ⟨ad, hA, hc⟩ := Kd.at_int (Kd.R_reads' HR.out).2.2 0 (by omega) (by rw [Dd.nums_len]; omega)
      clear hc
      subst hA
      obtain ⟨ix, hix, hlt9⟩ := Dd.index op
      obtain ⟨ad2, hA, hc⟩ := Kd.at_int (Kd.R_reads' HR.out).2.2 (ix : Int) (by omega) (by rw [Dd.nums_len]; omega)
      obtain rfl : ad2 = ad := by cases hA; rfl
      clear hA
      rw [Int.toNat_natCast] at hc
      have hok := Dd.num_at ix hlt9
      have hcap : 96 ≤ kT := by have := (Kd.R_reads' HR.out).2.1; rw [Dd.nums_len] at this; exact this
      obtain ⟨x, hx⟩ : ∃ x, x = rd (Dd.nums 128) (ix : Int) := ⟨_, rfl⟩
      rw [← hx] at hc hok
      clear hx
      have hi0 : (0 : Int) ≤ (ix : Int) := by omega
      have hi1 : (ix : Int) < 96 := by omega
      have HE0 := Lib.hid hok
      clear hok hlt9
      have HKN := Lib.hid law10_known
      have HM3 := Lib.hid (Dd.m_easy x HE0.out.2); have HN3 := Lib.hid (Dd.n_easy x HE0.out.2); have HM4 := Lib.hid (Dd.m_four x); have HN4 := Lib.hid (Dd.n_four x); have HNR := Lib.hid (Dd.n_right x HE0.out.1)
      obtain ⟨W0, hW0⟩ : ∃ W0, W0 = ((((((((wr.alloc (.cells #[.slice none 0 0, .slice none 0 0] 40)).alloc (.cells #[.int .i64 0, .int .i64 0, .int .i64 0, .int .u64 0, .slice none 0 0, .int .i64 x, .int .i64 0, .int .i64 0, .int .u64 0, .slice none 0 0, .int .i64 26, .int .i64 0, .int .i64 0, .int .u64 0, .slice none 0 0, .int .i64 11, .int .i64 0, .int .i64 0, .int .u64 0, .slice none 0 0] 25)).alloc (.cells #[.int .i64 0, .slice none 0 0, .slice (some ⟨wr.heap.size + 1, 0, none⟩) 4 4] 59)).alloc (.cells #[.slice (some ⟨wr.heap.size, 0, none⟩) 1 1, .slice none 0 0, .slice (some ⟨wr.heap.size + 1 + 1, 0, none⟩) 1 1, .slice none 0 0, .slice none 0 0, .slice none 0 0, .slice none 0 0, .slice none 0 0] 37)).alloc (.cells #[.slice none 0 0, .slice none 0 0] 40)).alloc (.cells #[.int .i64 1, .int .i64 0, .int .i64 0, .int .u64 0, .slice none 0 0, .int .i64 x, .int .i64 0, .int .i64 0, .int .u64 0, .slice none 0 0, .int .i64 26, .int .i64 0, .int .i64 0, .int .u64 0, .slice none 0 0, .int .i64 11, .int .i64 0, .int .i64 0, .int .u64 0, .slice none 0 0] 25)).alloc (.cells #[.int .i64 0, .slice none 0 0, .slice (some ⟨wr.heap.size + 1 + 1 + 1 + 1 + 1, 0, none⟩) 4 4] 59)).alloc (.cells #[.slice (some ⟨wr.heap.size + 1 + 1 + 1 + 1, 0, none⟩) 1 1, .slice none 0 0, .slice (some ⟨wr.heap.size + 1 + 1 + 1 + 1 + 1 + 1, 0, none⟩) 1 1, .slice none 0 0, .slice none 0 0, .slice none 0 0, .slice none 0 0, .slice none 0 0] 37)) := ⟨_, rfl⟩
      have z : W0.heap.size = wr.heap.size + 8 := by rw [hW0]; simp
      have x0 : W0.heap[wr.heap.size]? = some (.cells #[.slice none 0 0, .slice none 0 0] 40 (0, 0)) := by rw [hW0]; have := heap_alloc_new (wr) (.cells #[.slice none 0 0, .slice none 0 0] 40); exact (blk_alloc (blk_alloc (blk_alloc (blk_alloc (blk_alloc (blk_alloc (blk_alloc this _) _) _) _) _) _) _)
      have x1 : W0.heap[wr.heap.size + 1]? = some (.cells #[.int .i64 0, .int .i64 0, .int .i64 0, .int .u64 0, .slice none 0 0, .int .i64 x, .int .i64 0, .int .i64 0, .int .u64 0, .slice none 0 0, .int .i64 26, .int .i64 0, .int .i64 0, .int .u64 0, .slice none 0 0, .int .i64 11, .int .i64 0, .int .i64 0, .int .u64 0, .slice none 0 0] 25 (0, 0)) := by rw [hW0]; have := heap_alloc_new ((wr).alloc (.cells #[.slice none 0 0, .slice none 0 0] 40)) (.cells #[.int .i64 0, .int .i64 0, .int .i64 0, .int .u64 0, .slice none 0 0, .int .i64 x, .int .i64 0, .int .i64 0, .int .u64 0, .slice none 0 0, .int .i64 26, .int .i64 0, .int .i64 0, .int .u64 0, .slice none 0 0, .int .i64 11, .int .i64 0, .int .i64 0, .int .u64 0, .slice none 0 0] 25); rw [heap_size_alloc] at this; exact (blk_alloc (blk_alloc (blk_alloc (blk_alloc (blk_alloc (blk_alloc this _) _) _) _) _) _)
      have x2 : W0.heap[wr.heap.size + 1 + 1]? = some (.cells #[.int .i64 0, .slice none 0 0, .slice (some ⟨wr.heap.size + 1, 0, none⟩) 4 4] 59 (0, 0)) := by rw [hW0]; have := heap_alloc_new (((wr).alloc (.cells #[.slice none 0 0, .slice none 0 0] 40)).alloc (.cells #[.int .i64 0, .int .i64 0, .int .i64 0, .int .u64 0, .slice none 0 0, .int .i64 x, .int .i64 0, .int .i64 0, .int .u64 0, .slice none 0 0, .int .i64 26, .int .i64 0, .int .i64 0, .int .u64 0, .slice none 0 0, .int .i64 11, .int .i64 0, .int .i64 0, .int .u64 0, .slice none 0 0] 25)) (.cells #[.int .i64 0, .slice none 0 0, .slice (some ⟨wr.heap.size + 1, 0, none⟩) 4 4] 59); rw [heap_size_alloc, heap_size_alloc] at this; exact (blk_alloc (blk_alloc (blk_alloc (blk_alloc (blk_alloc this _) _) _) _) _)
      have x3 : W0.heap[wr.heap.size + 1 + 1 + 1]? = some (.cells #[.slice (some ⟨wr.heap.size, 0, none⟩) 1 1, .slice none 0 0, .slice (some ⟨wr.heap.size + 1 + 1, 0, none⟩) 1 1, .slice none 0 0, .slice none 0 0, .slice none 0 0, .slice none 0 0, .slice none 0 0] 37 (0, 0)) := by rw [hW0]; have := heap_alloc_new ((((wr).alloc (.cells #[.slice none 0 0, .slice none 0 0] 40)).alloc (.cells #[.int .i64 0, .int .i64 0, .int .i64 0, .int .u64 0, .slice none 0 0, .int .i64 x, .int .i64 0, .int .i64 0, .int .u64 0, .slice none 0 0, .int .i64 26, .int .i64 0, .int .i64 0, .int .u64 0, .slice none 0 0, .int .i64 11, .int .i64 0, .int .i64 0, .int .u64 0, .slice none 0 0] 25)).alloc (.cells #[.int .i64 0, .slice none 0 0, .slice (some ⟨wr.heap.size + 1, 0, none⟩) 4 4] 59)) (.cells #[.slice (some ⟨wr.heap.size, 0, none⟩) 1 1, .slice none 0 0, .slice (some ⟨wr.heap.size + 1 + 1, 0, none⟩) 1 1, .slice none 0 0, .slice none 0 0, .slice none 0 0, .slice none 0 0, .slice none 0 0] 37); rw [heap_size_alloc, heap_size_alloc, heap_size_alloc] at this; exact (blk_alloc (blk_alloc (blk_alloc (blk_alloc this _) _) _) _)
      have x4 : W0.heap[wr.heap.size + 1 + 1 + 1 + 1]? = some (.cells #[.slice none 0 0, .slice none 0 0] 40 (0, 0)) := by rw [hW0]; have := heap_alloc_new (((((wr).alloc (.cells #[.slice none 0 0, .slice none 0 0] 40)).alloc (.cells #[.int .i64 0, .int .i64 0, .int .i64 0, .int .u64 0, .slice none 0 0, .int .i64 x, .int .i64 0, .int .i64 0, .int .u64 0, .slice none 0 0, .int .i64 26, .int .i64 0, .int .i64 0, .int .u64 0, .slice none 0 0, .int .i64 11, .int .i64 0, .int .i64 0, .int .u64 0, .slice none 0 0] 25)).alloc (.cells #[.int .i64 0, .slice none 0 0, .slice (some ⟨wr.heap.size + 1, 0, none⟩) 4 4] 59)).alloc (.cells #[.slice (some ⟨wr.heap.size, 0, none⟩) 1 1, .slice none 0 0, .slice (some ⟨wr.heap.size + 1 + 1, 0, none⟩) 1 1, .slice none 0 0, .slice none 0 0, .slice none 0 0, .slice none 0 0, .slice none 0 0] 37)) (.cells #[.slice none 0 0, .slice none 0 0] 40); rw [heap_size_alloc, heap_size_alloc, heap_size_alloc, heap_size_alloc] at this; exact (blk_alloc (blk_alloc (blk_alloc this _) _) _)
      have x5 : W0.heap[wr.heap.size + 1 + 1 + 1 + 1 + 1]? = some (.cells #[.int .i64 1, .int .i64 0, .int .i64 0, .int .u64 0, .slice none 0 0, .int .i64 x, .int .i64 0, .int .i64 0, .int .u64 0, .slice none 0 0, .int .i64 26, .int .i64 0, .int .i64 0, .int .u64 0, .slice none 0 0, .int .i64 11, .int .i64 0, .int .i64 0, .int .u64 0, .slice none 0 0] 25 (0, 0)) := by rw [hW0]; have := heap_alloc_new ((((((wr).alloc (.cells #[.slice none 0 0, .slice none 0 0] 40)).alloc (.cells #[.int .i64 0, .int .i64 0, .int .i64 0, .int .u64 0, .slice none 0 0, .int .i64 x, .int .i64 0, .int .i64 0, .int .u64 0, .slice none 0 0, .int .i64 26, .int .i64 0, .int .i64 0, .int .u64 0, .slice none 0 0, .int .i64 11, .int .i64 0, .int .i64 0, .int .u64 0, .slice none 0 0] 25)).alloc (.cells #[.int .i64 0, .slice none 0 0, .slice (some ⟨wr.heap.size + 1, 0, none⟩) 4 4] 59)).alloc (.cells #[.slice (some ⟨wr.heap.size, 0, none⟩) 1 1, .slice none 0 0, .slice (some ⟨wr.heap.size + 1 + 1, 0, none⟩) 1 1, .slice none 0 0, .slice none 0 0, .slice none 0 0, .slice none 0 0, .slice none 0 0] 37)).alloc (.cells #[.slice none 0 0, .slice none 0 0] 40)) (.cells #[.int .i64 1, .int .i64 0, .int .i64 0, .int .u64 0, .slice none 0 0, .int .i64 x, .int .i64 0, .int .i64 0, .int .u64 0, .slice none 0 0, .int .i64 26, .int .i64 0, .int .i64 0, .int .u64 0, .slice none 0 0, .int .i64 11, .int .i64 0, .int .i64 0, .int .u64 0, .slice none 0 0] 25); rw [heap_size_alloc, heap_size_alloc, heap_size_alloc, heap_size_alloc, heap_size_alloc] at this; exact (blk_alloc (blk_alloc this _) _)
      have x6 : W0.heap[wr.heap.size + 1 + 1 + 1 + 1 + 1 + 1]? = some (.cells #[.int .i64 0, .slice none 0 0, .slice (some ⟨wr.heap.size + 1 + 1 + 1 + 1 + 1, 0, none⟩) 4 4] 59 (0, 0)) := by rw [hW0]; have := heap_alloc_new (((((((wr).alloc (.cells #[.slice none 0 0, .slice none 0 0] 40)).alloc (.cells #[.int .i64 0, .int .i64 0, .int .i64 0, .int .u64 0, .slice none 0 0, .int .i64 x, .int .i64 0, .int .i64 0, .int .u64 0, .slice none 0 0, .int .i64 26, .int .i64 0, .int .i64 0, .int .u64 0, .slice none 0 0, .int .i64 11, .int .i64 0, .int .i64 0, .int .u64 0, .slice none 0 0] 25)).alloc (.cells #[.int .i64 0, .slice none 0 0, .slice (some ⟨wr.heap.size + 1, 0, none⟩) 4 4] 59)).alloc (.cells #[.slice (some ⟨wr.heap.size, 0, none⟩) 1 1, .slice none 0 0, .slice (some ⟨wr.heap.size + 1 + 1, 0, none⟩) 1 1, .slice none 0 0, .slice none 0 0, .slice none 0 0, .slice none 0 0, .slice none 0 0] 37)).alloc (.cells #[.slice none 0 0, .slice none 0 0] 40)).alloc (.cells #[.int .i64 1, .int .i64 0, .int .i64 0, .int .u64 0, .slice none 0 0, .int .i64 x, .int .i64 0, .int .i64 0, .int .u64 0, .slice none 0 0, .int .i64 26, .int .i64 0, .int .i64 0, .int .u64 0, .slice none 0 0, .int .i64 11, .int .i64 0, .int .i64 0, .int .u64 0, .slice none 0 0] 25)) (.cells #[.int .i64 0, .slice none 0 0, .slice (some ⟨wr.heap.size + 1 + 1 + 1 + 1 + 1, 0, none⟩) 4 4] 59); rw [heap_size_alloc, heap_size_alloc, heap_size_alloc, heap_size_alloc, heap_size_alloc, heap_size_alloc] at this; exact (blk_alloc this _)
      have x7 : W0.heap[wr.heap.size + 1 + 1 + 1 + 1 + 1 + 1 + 1]? = some (.cells #[.slice (some ⟨wr.heap.size + 1 + 1 + 1 + 1, 0, none⟩) 1 1, .slice none 0 0, .slice (some ⟨wr.heap.size + 1 + 1 + 1 + 1 + 1 + 1, 0, none⟩) 1 1, .slice none 0 0, .slice none 0 0, .slice none 0 0, .slice none 0 0, .slice none 0 0] 37 (0, 0)) := by rw [hW0]; have := heap_alloc_new ((((((((wr).alloc (.cells #[.slice none 0 0, .slice none 0 0] 40)).alloc (.cells #[.int .i64 0, .int .i64 0, .int .i64 0, .int .u64 0, .slice none 0 0, .int .i64 x, .int .i64 0, .int .i64 0, .int .u64 0, .slice none 0 0, .int .i64 26, .int .i64 0, .int .i64 0, .int .u64 0, .slice none 0 0, .int .i64 11, .int .i64 0, .int .i64 0, .int .u64 0, .slice none 0 0] 25)).alloc (.cells #[.int .i64 0, .slice none 0 0, .slice (some ⟨wr.heap.size + 1, 0, none⟩) 4 4] 59)).alloc (.cells #[.slice (some ⟨wr.heap.size, 0, none⟩) 1 1, .slice none 0 0, .slice (some ⟨wr.heap.size + 1 + 1, 0, none⟩) 1 1, .slice none 0 0, .slice none 0 0, .slice none 0 0, .slice none 0 0, .slice none 0 0] 37)).alloc (.cells #[.slice none 0 0, .slice none 0 0] 40)).alloc (.cells #[.int .i64 1, .int .i64 0, .int .i64 0, .int .u64 0, .slice none 0 0, .int .i64 x, .int .i64 0, .int .i64 0, .int .u64 0, .slice none 0 0, .int .i64 26, .int .i64 0, .int .i64 0, .int .u64 0, .slice none 0 0, .int .i64 11, .int .i64 0, .int .i64 0, .int .u64 0, .slice none 0 0] 25)).alloc (.cells #[.int .i64 0, .slice none 0 0, .slice (some ⟨wr.heap.size + 1 + 1 + 1 + 1 + 1, 0, none⟩) 4 4] 59)) (.cells #[.slice (some ⟨wr.heap.size + 1 + 1 + 1 + 1, 0, none⟩) 1 1, .slice none 0 0, .slice (some ⟨wr.heap.size + 1 + 1 + 1 + 1 + 1 + 1, 0, none⟩) 1 1, .slice none 0 0, .slice none 0 0, .slice none 0 0, .slice none 0 0, .slice none 0 0] 37); rw [heap_size_alloc, heap_size_alloc, heap_size_alloc, heap_size_alloc, heap_size_alloc, heap_size_alloc, heap_size_alloc] at this; exact this
      have HX := Lib.hid (And.intro x0 (And.intro x1 (And.intro x2 (And.intro x3 (And.intro x4 (And.intro x5 (And.intro x6 x7)))))))
      have HZ := Lib.hid z
      have HBA : Hid (Below wr.heap.size wr W0) := Lib.hid (by rw [hW0]; exact below_alloc (below_alloc (below_alloc (below_alloc (below_alloc (below_alloc (below_alloc (below_alloc (Below.refl _ _) _) _) _) _) _) _) _) _)
      have HW0 := Lib.hid hW0
      clear hW0 z x0 x1 x2 x3 x4 x5 x6 x7
      cases hbr : Sp.rich x with
      | true =>
        have HB0 := Lib.hid hbr
        have HE := Lib.hid (Dd.ok_rich HE0.out.1 hbr)
        clear hbr
        cases rich with
        | true =>
          have HF : Hid (Calls Tryz.prog 21 #[.agg #[.slice (some ⟨wr.heap.size + 1 + 1 + 1 + 1, 0, none⟩) 1 1, .slice none 0 0, .slice (some ⟨wr.heap.size + 1 + 1 + 1 + 1 + 1 + 1, 0, none⟩) 1 1, .slice none 0 0, .slice none 0 0, .slice none 0 0, .slice none 0 0, .slice none 0 0], .int .i64 0, .int .i64 2] W0 (FuncEnd (1, 14) W0)) := Lib.hid (by have := lit_Func (c := Dd.nM x) HN3.out (litCs (wr.heap.size + 1 + 1 + 1 + 1) (wr.heap.size + 1 + 1 + 1 + 1 + 1 + 1)) 2 (.inr rfl) W0 (lit_K (c := Dd.nM x) (B1 := wr.heap.size + 1 + 1 + 1 + 1 + 1) HX.out.2.2.2.2.1 HX.out.2.2.2.2.2.1 HX.out.2.2.2.2.2.2.1 HN4.out (by show (4 : Nat) ≤ _; omega)) HNR.out; rw [show Sp.runOf (litM (Dd.nM x)) (decide ((2 : Int) = 1)) 0 = (1, 14) from HE.out.2.2.1] at this; exact this)
          rw [HW0.out] at HF
          have HRI : Hid (∀ W, Calls Tryz.prog 20 #[.int .i64 x] W (fun e w' => e = .returned (.bool true) ∧ W = w')) := Lib.hid (fun W => by have := ref3_Rich x W; rw [HB0.out] at this; exact this)
          go_wp2_with (first | ((go_at_call 20); (with_reducible refine (HRI.out _).mono ?_); rintro e w' ⟨rfl, rfl⟩) | ((go_at_call 21); (with_reducible refine HF.out.mono ?_); rintro e w1 ⟨rfl, hb⟩; rw [← HW0.out] at hb; have HB1 := Lib.hid hb; clear hb))
          have hz1 := HB1.out.size
          have hz0 := HZ.out
          have y0 := (HB1.out.block (wr.heap.size) (by omega)).trans HX.out.1
          have y1 := (HB1.out.block (wr.heap.size + 1) (by omega)).trans HX.out.2.1
          have y2 := (HB1.out.block (wr.heap.size + 1 + 1) (by omega)).trans HX.out.2.2.1
          have y3 := (HB1.out.block (wr.heap.size + 1 + 1 + 1) (by omega)).trans HX.out.2.2.2.1
          have y4 := (HB1.out.block (wr.heap.size + 1 + 1 + 1 + 1) (by omega)).trans HX.out.2.2.2.2.1
          have y5 := (HB1.out.block (wr.heap.size + 1 + 1 + 1 + 1 + 1) (by omega)).trans HX.out.2.2.2.2.2.1
          have y6 := (HB1.out.block (wr.heap.size + 1 + 1 + 1 + 1 + 1 + 1) (by omega)).trans HX.out.2.2.2.2.2.2.1
          have y7 := (HB1.out.block (wr.heap.size + 1 + 1 + 1 + 1 + 1 + 1 + 1) (by omega)).trans HX.out.2.2.2.2.2.2.2
          have HMP : Hid (∀ W, Below w1.heap.size w1 W → Calls Tryz.prog 18 #[.agg #[.slice (some ⟨wr.heap.size, 0, none⟩) 1 1, .slice none 0 0, .slice (some ⟨wr.heap.size + 1 + 1, 0, none⟩) 1 1, .slice none 0 0, .slice none 0 0, .slice none 0 0, .slice none 0 0, .slice none 0 0], .int .i64 2] W (ErrEnd 0 W)) := Lib.hid (fun W hb => by have := lit_Module (c := Dd.mM x) HM3.out (litCs (wr.heap.size) (wr.heap.size + 1 + 1)) 2 W (lit_K (c := Dd.mM x) (B1 := wr.heap.size + 1) ((hb.block _ (blk_lt y0)).trans y0) ((hb.block _ (blk_lt y1)).trans y1) ((hb.block _ (blk_lt y2)).trans y2) HM4.out (by show (4 : Nat) ≤ _; omega)); rw [show Sp.moduleErr (litM (Dd.mM x)) 2 = 0 from HE.out.1] at this; exact this)
          have HNP : Hid (∀ W, Below w1.heap.size w1 W → Calls Tryz.prog 18 #[.agg #[.slice (some ⟨wr.heap.size + 1 + 1 + 1 + 1, 0, none⟩) 1 1, .slice none 0 0, .slice (some ⟨wr.heap.size + 1 + 1 + 1 + 1 + 1 + 1, 0, none⟩) 1 1, .slice none 0 0, .slice none 0 0, .slice none 0 0, .slice none 0 0, .slice none 0 0], .int .i64 2] W (ErrEnd 14 W)) := Lib.hid (fun W hb => by have := lit_Module (c := Dd.nM x) HN3.out (litCs (wr.heap.size + 1 + 1 + 1 + 1) (wr.heap.size + 1 + 1 + 1 + 1 + 1 + 1)) 2 W (lit_K (c := Dd.nM x) (B1 := wr.heap.size + 1 + 1 + 1 + 1 + 1) ((hb.block _ (blk_lt y4)).trans y4) ((hb.block _ (blk_lt y5)).trans y5) ((hb.block _ (blk_lt y6)).trans y6) HN4.out (by show (4 : Nat) ≤ _; omega)); rw [show Sp.moduleErr (litM (Dd.nM x)) 2 = 14 from HE.out.2.1] at this; exact this)
          have HMQ : Hid (∀ W, Below w1.heap.size w1 W → Calls Tryz.prog 18 #[.agg #[.slice (some ⟨wr.heap.size, 0, none⟩) 1 1, .slice none 0 0, .slice (some ⟨wr.heap.size + 1 + 1, 0, none⟩) 1 1, .slice none 0 0, .slice none 0 0, .slice none 0 0, .slice none 0 0, .slice none 0 0], .int .i64 1] W (ErrEnd 24 W)) := Lib.hid (fun W hb => by have := lit_Module (c := Dd.mM x) HM3.out (litCs (wr.heap.size) (wr.heap.size + 1 + 1)) 1 W (lit_K (c := Dd.mM x) (B1 := wr.heap.size + 1) ((hb.block _ (blk_lt y0)).trans y0) ((hb.block _ (blk_lt y1)).trans y1) ((hb.block _ (blk_lt y2)).trans y2) HM4.out (by show (4 : Nat) ≤ _; omega)); rw [show Sp.moduleErr (litM (Dd.mM x)) 1 = 24 from HE.out.2.2.2] at this; exact this)
          have HY3 := Lib.hid y3; have HY7 := Lib.hid y7
          have HBW := Lib.hid (below_then HB.out HB.out.size (HBA.out))
          clear hz0 hz1 y0 y1 y2 y3 y4 y5 y6 y7
          refine start_ (n := 30) (S := fun w' => Below w1.heap.size w1 w') (ds := []) #[false, false, false, false, false, false, false, false, false, false, false, false, false, false, false, false, false, false, false, false, false, false, false, false, false, false, false, false, false, false] (by kernel_rfl) rfl rfl (below_drew (Below.refl _ _)) (fun hHeld => ?_)
          refine take_ (i := 0) (N := some 77) (v := ?_) (a' := ?_) #[true, false, false, false, false, false, false, false, false, false, false, false, false, false, false, false, false, false, false, false, false, false, false, false, false, false, false, false, false, false] rfl rfl (by kernel_rfl) (fun _ _ _ h => h) (Or.inl ⟨by rfl, ?_⟩) hHeld ?_ ?_
          rotate_left
          · intro w' s0
            have y := (s0.block _ (blk_lt HY3.out)).trans HY3.out
            have q0 := (blk_cell y 0).trans rfl
            have q1 := (blk_cell y 1).trans rfl
            have q2 := (blk_cell y 2).trans rfl
            have q3 := (blk_cell y 3).trans rfl
            have q4 := (blk_cell y 4).trans rfl
            have q5 := (blk_cell y 5).trans rfl
            have q6 := (blk_cell y 6).trans rfl
            have q7 := (blk_cell y 7).trans rfl
            clear y
            go_simp
            try with_reducible rfl
          rotate_left
          · simp only [Act.put, List.setIfInBounds_toArray, List.set_cons_zero, List.set_cons_succ, i64_w, i32_w]
            rfl
          refine pure_ (i := 1) (N := some 78) (v := ?_) (a' := ?_) #[true, true, false, false, false, false, false, false, false, false, false, false, false, false, false, false, false, false, false, false, false, false, false, false, false, false, false, false, false, false] rfl rfl (by kernel_rfl) (fun _ _ _ h => h) (Or.inl ⟨by rfl, ?_⟩) ?_ ?_
          rotate_left
          · intro w'
            go_simp
            try with_reducible rfl
          rotate_left
          · simp only [Act.put, List.setIfInBounds_toArray, List.set_cons_zero, List.set_cons_succ, i64_w, i32_w]
            rfl
          refine one_ (i := 2) (N := some 79) #[true, true, true, false, false, false, false, false, false, false, false, false, false, false, false, false, false, false, false, false, false, false, false, false, false, false, false, false, false, false] rfl rfl (by kernel_rfl) (by decide) (fun K hK => ?_)
          refine goes_ Tryz.func18 (by kernel_rfl) rfl #[.agg #[.slice (some ⟨wr.heap.size, 0, none⟩) 1 1, .slice none 0 0, .slice (some ⟨wr.heap.size + 1 + 1, 0, none⟩) 1 1, .slice none 0 0, .slice none 0 0, .slice none 0 0, .slice none 0 0, .slice none 0 0], .int .i64 2] (by rfl) rfl rfl (by first | rfl | (simp only [List.map_toArray, List.map_cons, List.map_nil]; rfl)) ?_
          refine (HMP.out _ hHeld).mono ?_
          rintro e w2 ⟨rfl, hb⟩
          have HH2 := Lib.hid (below_then hHeld hHeld.size hb)
          clear hb
          refine ⟨_, rfl, ?_⟩
          refine hK.out _ _ HH2.out (fun hHeld => ?_)
          clear hK K
          refine norm_ (a' := ?_) ?_ ?_
          rotate_left
          · show Act.put _ (some 79) _ = _
            simp only [Act.put, List.setIfInBounds_toArray, List.set_cons_zero, List.set_cons_succ, i64_w, i32_w]
            rfl
          refine pure_ (i := 3) (N := some 80) (v := ?_) (a' := ?_) #[true, true, true, true, false, false, false, false, false, false, false, false, false, false, false, false, false, false, false, false, false, false, false, false, false, false, false, false, false, false] rfl rfl (by kernel_rfl) (fun _ _ _ h => h) (Or.inl ⟨by rfl, ?_⟩) ?_ ?_
          rotate_left
          · intro w'
            go_simp
            try with_reducible rfl
          rotate_left
          · simp only [Act.put, List.setIfInBounds_toArray, List.set_cons_zero, List.set_cons_succ, i64_w, i32_w]
            rfl
          refine pure_ (i := 4) (N := some 81) (v := ?_) (a' := ?_) #[true, true, true, true, true, false, false, false, false, false, false, false, false, false, false, false, false, false, false, false, false, false, false, false, false, false, false, false, false, false] rfl rfl (by kernel_rfl) (fun _ _ _ h => h) (Or.inl ⟨by rfl, ?_⟩) ?_ ?_
          rotate_left
          · intro w'
            go_simp
            try with_reducible rfl
          rotate_left
          · simp only [Act.put, List.setIfInBounds_toArray, List.set_cons_zero, List.set_cons_succ, i64_w, i32_w]
            rfl
          refine take_ (i := 5) (N := some 82) (v := ?_) (a' := ?_) #[true, true, true, true, true, true, false, false, false, false, false, false, false, false, false, false, false, false, false, false, false, false, false, false, false, false, false, false, false, false] rfl rfl (by kernel_rfl) (fun _ _ _ h => h) (Or.inl ⟨by rfl, ?_⟩) hHeld ?_ ?_
          rotate_left
          · intro w' s0
            have y := (s0.block _ (blk_lt HY7.out)).trans HY7.out
            have q0 := (blk_cell y 0).trans rfl
            have q1 := (blk_cell y 1).trans rfl
            have q2 := (blk_cell y 2).trans rfl
            have q3 := (blk_cell y 3).trans rfl
            have q4 := (blk_cell y 4).trans rfl
            have q5 := (blk_cell y 5).trans rfl
            have q6 := (blk_cell y 6).trans rfl
            have q7 := (blk_cell y 7).trans rfl
            clear y
            go_simp
            try with_reducible rfl
          rotate_left
          · simp only [Act.put, List.setIfInBounds_toArray, List.set_cons_zero, List.set_cons_succ, i64_w, i32_w]
            rfl
          refine pure_ (i := 6) (N := some 83) (v := ?_) (a' := ?_) #[true, true, true, true, true, true, true, false, false, false, false, false, false, false, false, false, false, false, false, false, false, false, false, false, false, false, false, false, false, false] rfl rfl (by kernel_rfl) (fun _ _ _ h => h) (Or.inl ⟨by rfl, ?_⟩) ?_ ?_
          rotate_left
          · intro w'
            go_simp
            try with_reducible rfl
          rotate_left
          · simp only [Act.put, List.setIfInBounds_toArray, List.set_cons_zero, List.set_cons_succ, i64_w, i32_w]
            rfl
          refine one_ (i := 7) (N := some 84) #[true, true, true, true, true, true, true, true, false, false, false, false, false, false, false, false, false, false, false, false, false, false, false, false, false, false, false, false, false, false] rfl rfl (by kernel_rfl) (by decide) (fun K hK => ?_)
          refine goes_ Tryz.func18 (by kernel_rfl) rfl #[.agg #[.slice (some ⟨wr.heap.size + 1 + 1 + 1 + 1, 0, none⟩) 1 1, .slice none 0 0, .slice (some ⟨wr.heap.size + 1 + 1 + 1 + 1 + 1 + 1, 0, none⟩) 1 1, .slice none 0 0, .slice none 0 0, .slice none 0 0, .slice none 0 0, .slice none 0 0], .int .i64 2] (by rfl) rfl rfl (by first | rfl | (simp only [List.map_toArray, List.map_cons, List.map_nil]; rfl)) ?_
          refine (HNP.out _ hHeld).mono ?_
          rintro e w3 ⟨rfl, hb⟩
          have HH3 := Lib.hid (below_then hHeld hHeld.size hb)
          clear hb
          refine ⟨_, rfl, ?_⟩
          refine hK.out _ _ HH3.out (fun hHeld => ?_)
          clear hK K
          refine norm_ (a' := ?_) ?_ ?_
          rotate_left
          · show Act.put _ (some 84) _ = _
            simp only [Act.put, List.setIfInBounds_toArray, List.set_cons_zero, List.set_cons_succ, i64_w, i32_w]
            rfl
          refine pure_ (i := 8) (N := some 85) (v := ?_) (a' := ?_) #[true, true, true, true, true, true, true, true, true, false, false, false, false, false, false, false, false, false, false, false, false, false, false, false, false, false, false, false, false, false] rfl rfl (by kernel_rfl) (fun _ _ _ h => h) (Or.inl ⟨by rfl, ?_⟩) ?_ ?_
          rotate_left
          · intro w'
            go_simp
            try with_reducible rfl
          rotate_left
          · simp only [Act.put, List.setIfInBounds_toArray, List.set_cons_zero, List.set_cons_succ, i64_w, i32_w]
            rfl
          refine pure_ (i := 9) (N := some 86) (v := ?_) (a' := ?_) #[true, true, true, true, true, true, true, true, true, true, false, false, false, false, false, false, false, false, false, false, false, false, false, false, false, false, false, false, false, false] rfl rfl (by kernel_rfl) (fun _ _ _ h => h) (Or.inl ⟨by rfl, ?_⟩) ?_ ?_
          rotate_left
          · intro w'
            go_simp
            try with_reducible rfl
          rotate_left
          · simp only [Act.put, List.setIfInBounds_toArray, List.set_cons_zero, List.set_cons_succ, i64_w, i32_w]
            rfl
          refine pure_ (i := 10) (N := some 87) (v := ?_) (a' := ?_) #[true, true, true, true, true, true, true, true, true, true, true, false, false, false, false, false, false, false, false, false, false, false, false, false, false, false, false, false, false, false] rfl rfl (by kernel_rfl) (fun _ _ _ h => h) (Or.inl ⟨by rfl, ?_⟩) ?_ ?_
          rotate_left
          · intro w'
            go_simp
            try with_reducible rfl
          rotate_left
          · simp only [Act.put, List.setIfInBounds_toArray, List.set_cons_zero, List.set_cons_succ, i64_w, i32_w]
            rfl
          refine pure_ (i := 11) (N := some 88) (v := ?_) (a' := ?_) #[true, true, true, true, true, true, true, true, true, true, true, true, false, false, false, false, false, false, false, false, false, false, false, false, false, false, false, false, false, false] rfl rfl (by kernel_rfl) (fun _ _ _ h => h) (Or.inl ⟨by rfl, ?_⟩) ?_ ?_
          rotate_left
          · intro w'
            go_simp
            try with_reducible rfl
          rotate_left
          · simp only [Act.put, List.setIfInBounds_toArray, List.set_cons_zero, List.set_cons_succ, i64_w, i32_w]
            rfl
          refine pure_ (i := 12) (N := some 89) (v := ?_) (a' := ?_) #[true, true, true, true, true, true, true, true, true, true, true, true, true, false, false, false, false, false, false, false, false, false, false, false, false, false, false, false, false, false] rfl rfl (by kernel_rfl) (fun _ _ _ h => h) (Or.inl ⟨by rfl, ?_⟩) ?_ ?_
          rotate_left
          · intro w'
            go_simp
            try with_reducible rfl
          rotate_left
          · simp only [Act.put, List.setIfInBounds_toArray, List.set_cons_zero, List.set_cons_succ, i64_w, i32_w]
            rfl
          refine pure_ (i := 13) (N := some 90) (v := ?_) (a' := ?_) #[true, true, true, true, true, true, true, true, true, true, true, true, true, true, false, false, false, false, false, false, false, false, false, false, false, false, false, false, false, false] rfl rfl (by kernel_rfl) (fun _ _ _ h => h) (Or.inl ⟨by rfl, ?_⟩) ?_ ?_
          rotate_left
          · intro w'
            go_simp
            try with_reducible rfl
          rotate_left
          · simp only [Act.put, List.setIfInBounds_toArray, List.set_cons_zero, List.set_cons_succ, i64_w, i32_w]
            rfl
          refine pure_ (i := 14) (N := some 91) (v := ?_) (a' := ?_) #[true, true, true, true, true, true, true, true, true, true, true, true, true, true, true, false, false, false, false, false, false, false, false, false, false, false, false, false, false, false] rfl rfl (by kernel_rfl) (fun _ _ _ h => h) (Or.inl ⟨by rfl, ?_⟩) ?_ ?_
          rotate_left
          · intro w'
            go_simp
            try with_reducible rfl
          rotate_left
          · simp only [Act.put, List.setIfInBounds_toArray, List.set_cons_zero, List.set_cons_succ, i64_w, i32_w]
            rfl
          refine pure_ (i := 15) (N := some 92) (v := ?_) (a' := ?_) #[true, true, true, true, true, true, true, true, true, true, true, true, true, true, true, true, false, false, false, false, false, false, false, false, false, false, false, false, false, false] rfl rfl (by kernel_rfl) (fun _ _ _ h => h) (Or.inl ⟨by rfl, ?_⟩) ?_ ?_
          rotate_left
          · intro w'
            go_simp
            try with_reducible rfl
          rotate_left
          · simp only [Act.put, List.setIfInBounds_toArray, List.set_cons_zero, List.set_cons_succ, i64_w, i32_w]
            rfl
          refine pure_ (i := 16) (N := some 93) (v := ?_) (a' := ?_) #[true, true, true, true, true, true, true, true, true, true, true, true, true, true, true, true, true, false, false, false, false, false, false, false, false, false, false, false, false, false] rfl rfl (by kernel_rfl) (fun _ _ _ h => h) (Or.inl ⟨by rfl, ?_⟩) ?_ ?_
          rotate_left
          · intro w'
            go_simp
            try with_reducible rfl
          rotate_left
          · simp only [Act.put, List.setIfInBounds_toArray, List.set_cons_zero, List.set_cons_succ, i64_w, i32_w]
            rfl
          refine pure_ (i := 17) (N := some 94) (v := ?_) (a' := ?_) #[true, true, true, true, true, true, true, true, true, true, true, true, true, true, true, true, true, true, false, false, false, false, false, false, false, false, false, false, false, false] rfl rfl (by kernel_rfl) (fun _ _ _ h => h) (Or.inl ⟨by rfl, ?_⟩) ?_ ?_
          rotate_left
          · intro w'
            go_simp
            try with_reducible rfl
          rotate_left
          · simp only [Act.put, List.setIfInBounds_toArray, List.set_cons_zero, List.set_cons_succ, i64_w, i32_w]
            rfl
          refine pure_ (i := 18) (N := some 95) (v := ?_) (a' := ?_) #[true, true, true, true, true, true, true, true, true, true, true, true, true, true, true, true, true, true, true, false, false, false, false, false, false, false, false, false, false, false] rfl rfl (by kernel_rfl) (fun _ _ _ h => h) (Or.inl ⟨by rfl, ?_⟩) ?_ ?_
          rotate_left
          · intro w'
            go_simp
            try with_reducible rfl
          rotate_left
          · simp only [Act.put, List.setIfInBounds_toArray, List.set_cons_zero, List.set_cons_succ, i64_w, i32_w]
            rfl
          refine pure_ (i := 19) (N := some 96) (v := ?_) (a' := ?_) #[true, true, true, true, true, true, true, true, true, true, true, true, true, true, true, true, true, true, true, true, false, false, false, false, false, false, false, false, false, false] rfl rfl (by kernel_rfl) (fun _ _ _ h => h) (Or.inl ⟨by rfl, ?_⟩) ?_ ?_
          rotate_left
          · intro w'
            go_simp
            try with_reducible rfl
          rotate_left
          · simp only [Act.put, List.setIfInBounds_toArray, List.set_cons_zero, List.set_cons_succ, i64_w, i32_w]
            rfl
          refine take_ (i := 21) (N := some 98) (v := ?_) (a' := ?_) #[true, true, true, true, true, true, true, true, true, true, true, true, true, true, true, true, true, true, true, true, false, true, false, false, false, false, false, false, false, false] rfl rfl (by kernel_rfl) (fun _ _ _ h => h) (Or.inl ⟨by rfl, ?_⟩) hHeld ?_ ?_
          rotate_left
          · intro w' s0
            have y := (s0.block _ (blk_lt HY3.out)).trans HY3.out
            have q0 := (blk_cell y 0).trans rfl
            have q1 := (blk_cell y 1).trans rfl
            have q2 := (blk_cell y 2).trans rfl
            have q3 := (blk_cell y 3).trans rfl
            have q4 := (blk_cell y 4).trans rfl
            have q5 := (blk_cell y 5).trans rfl
            have q6 := (blk_cell y 6).trans rfl
            have q7 := (blk_cell y 7).trans rfl
            clear y
            go_simp
            try with_reducible rfl
          rotate_left
          · simp only [Act.put, List.setIfInBounds_toArray, List.set_cons_zero, List.set_cons_succ, i64_w, i32_w]
            rfl
          refine one_ (i := 20) (N := some 97) #[true, true, true, true, true, true, true, true, true, true, true, true, true, true, true, true, true, true, true, true, true, true, false, false, false, false, false, false, false, false] rfl rfl (by kernel_rfl) (by decide) (fun K hK => ?_)
          refine goes_ Tryz.func20 (by kernel_rfl) rfl #[.int .i64 x] (by rfl) rfl rfl (by first | rfl | (simp only [List.map_toArray, List.map_cons, List.map_nil]; rfl)) ?_
          refine (HRI.out _).mono ?_
          rintro e w' ⟨rfl, rfl⟩
          refine ⟨_, rfl, ?_⟩
          refine hK.out _ _ hHeld (fun hHeld => ?_)
          clear hK K
          refine norm_ (a' := ?_) ?_ ?_
          rotate_left
          · show Act.put _ (some 97) _ = _
            simp only [Act.put, List.setIfInBounds_toArray, List.set_cons_zero, List.set_cons_succ, i64_w, i32_w]
            rfl
          refine one_ (i := 22) (N := some 99) #[true, true, true, true, true, true, true, true, true, true, true, true, true, true, true, true, true, true, true, true, true, true, true, false, false, false, false, false, false, false] rfl rfl (by kernel_rfl) (by decide) (fun K hK => ?_)
          refine goes_ Tryz.func18 (by kernel_rfl) rfl #[.agg #[.slice (some ⟨wr.heap.size, 0, none⟩) 1 1, .slice none 0 0, .slice (some ⟨wr.heap.size + 1 + 1, 0, none⟩) 1 1, .slice none 0 0, .slice none 0 0, .slice none 0 0, .slice none 0 0, .slice none 0 0], .int .i64 1] (by rfl) rfl rfl (by first | rfl | (simp only [List.map_toArray, List.map_cons, List.map_nil]; rfl)) ?_
          refine (HMQ.out _ hHeld).mono ?_
          rintro e w4 ⟨rfl, hb⟩
          have HH4 := Lib.hid (below_then hHeld hHeld.size hb)
          clear hb
          refine ⟨_, rfl, ?_⟩
          refine hK.out _ _ HH4.out (fun hHeld => ?_)
          clear hK K
          refine norm_ (a' := ?_) ?_ ?_
          rotate_left
          · show Act.put _ (some 99) _ = _
            simp only [Act.put, List.setIfInBounds_toArray, List.set_cons_zero, List.set_cons_succ, i64_w, i32_w]
            rfl
          refine pure_ (i := 23) (N := some 100) (v := ?_) (a' := ?_) #[true, true, true, true, true, true, true, true, true, true, true, true, true, true, true, true, true, true, true, true, true, true, true, true, false, false, false, false, false, false] rfl rfl (by kernel_rfl) (fun _ _ _ h => h) (Or.inl ⟨by rfl, ?_⟩) ?_ ?_
          rotate_left
          · intro w'
            go_simp
            try with_reducible rfl
          rotate_left
          · simp only [Act.put, List.setIfInBounds_toArray, List.set_cons_zero, List.set_cons_succ, i64_w, i32_w]
            rfl
          refine pure_ (i := 24) (N := some 101) (v := ?_) (a' := ?_) #[true, true, true, true, true, true, true, true, true, true, true, true, true, true, true, true, true, true, true, true, true, true, true, true, true, false, false, false, false, false] rfl rfl (by kernel_rfl) (fun _ _ _ h => h) (Or.inl ⟨by rfl, ?_⟩) ?_ ?_
          rotate_left
          · intro w'
            go_simp
            try with_reducible rfl
          rotate_left
          · simp only [Act.put, List.setIfInBounds_toArray, List.set_cons_zero, List.set_cons_succ, i64_w, i32_w]
            rfl
          refine pure_ (i := 25) (N := some 102) (v := ?_) (a' := ?_) #[true, true, true, true, true, true, true, true, true, true, true, true, true, true, true, true, true, true, true, true, true, true, true, true, true, true, false, false, false, false] rfl rfl (by kernel_rfl) (fun _ _ _ h => h) (Or.inl ⟨by rfl, ?_⟩) ?_ ?_
          rotate_left
          · intro w'
            go_simp
            try with_reducible rfl
          rotate_left
          · simp only [Act.put, List.setIfInBounds_toArray, List.set_cons_zero, List.set_cons_succ, i64_w, i32_w]
            rfl
          refine pure_ (i := 26) (N := some 103) (v := ?_) (a' := ?_) #[true, true, true, true, true, true, true, true, true, true, true, true, true, true, true, true, true, true, true, true, true, true, true, true, true, true, true, false, false, false] rfl rfl (by kernel_rfl) (fun _ _ _ h => h) (Or.inl ⟨by rfl, ?_⟩) ?_ ?_
          rotate_left
          · intro w'
            go_simp
            try with_reducible rfl
          rotate_left
          · simp only [Act.put, List.setIfInBounds_toArray, List.set_cons_zero, List.set_cons_succ, i64_w, i32_w]
            rfl
          refine one_ (i := 27) (N := some 104) #[true, true, true, true, true, true, true, true, true, true, true, true, true, true, true, true, true, true, true, true, true, true, true, true, true, true, true, true, false, false] rfl rfl (by kernel_rfl) (by decide) (fun K hK => ?_)
          refine goes_ Tryz.func15 (by kernel_rfl) rfl #[] (by rfl) rfl rfl (by simp only [List.map_toArray, List.map_nil]) ?_
          refine (HKN.out _).mono ?_
          rintro e w5 ⟨rfl, hb⟩
          have HH5 := Lib.hid (below_then hHeld hHeld.size hb)
          clear hb
          refine ⟨_, rfl, ?_⟩
          refine hK.out _ _ HH5.out (fun hHeld => ?_)
          clear hK K
          refine norm_ (a' := ?_) ?_ ?_
          rotate_left
          · show Act.put _ (some 104) _ = _
            simp only [Act.put, List.setIfInBounds_toArray, List.set_cons_zero, List.set_cons_succ, i64_w, i32_w]
            rfl
          refine pure_ (i := 28) (N := some 105) (v := ?_) (a' := ?_) #[true, true, true, true, true, true, true, true, true, true, true, true, true, true, true, true, true, true, true, true, true, true, true, true, true, true, true, true, true, false] rfl rfl (by kernel_rfl) (fun _ _ _ h => h) (Or.inl ⟨by rfl, ?_⟩) ?_ ?_
          rotate_left
          · intro w'
            go_simp
            try with_reducible rfl
          rotate_left
          · simp only [Act.put, List.setIfInBounds_toArray, List.set_cons_zero, List.set_cons_succ, i64_w, i32_w]
            rfl
          refine pure_ (i := 29) (N := some 4) (v := ?_) (a' := ?_) #[true, true, true, true, true, true, true, true, true, true, true, true, true, true, true, true, true, true, true, true, true, true, true, true, true, true, true, true, true, true] rfl rfl (by kernel_rfl) (fun _ _ _ h => h) (Or.inl ⟨by rfl, ?_⟩) ?_ ?_
          rotate_left
          · intro w'
            go_simp
            try with_reducible rfl
          rotate_left
          · simp only [Act.put, List.setIfInBounds_toArray, List.set_cons_zero, List.set_cons_succ, i64_w, i32_w]
            rfl
          refine done_ (by kernel_rfl) ?_
          go_wp2_with fail
          go_ret
          exact ⟨rfl, below_then HBW.out HBW.out.size (below_then HB1.out HB1.out.size HH5.out)⟩
        | false =>
          have HF : Hid (Calls Tryz.prog 21 #[.agg #[.slice (some ⟨wr.heap.size + 1 + 1 + 1 + 1, 0, none⟩) 1 1, .slice none 0 0, .slice (some ⟨wr.heap.size + 1 + 1 + 1 + 1 + 1 + 1, 0, none⟩) 1 1, .slice none 0 0, .slice none 0 0, .slice none 0 0, .slice none 0 0, .slice none 0 0], .int .i64 0, .int .i64 2] W0 (FuncEnd (1, 14) W0)) := Lib.hid (by have := lit_Func (c := Dd.nM x) HN3.out (litCs (wr.heap.size + 1 + 1 + 1 + 1) (wr.heap.size + 1 + 1 + 1 + 1 + 1 + 1)) 2 (.inr rfl) W0 (lit_K (c := Dd.nM x) (B1 := wr.heap.size + 1 + 1 + 1 + 1 + 1) HX.out.2.2.2.2.1 HX.out.2.2.2.2.2.1 HX.out.2.2.2.2.2.2.1 HN4.out (by show (4 : Nat) ≤ _; omega)) HNR.out; rw [show Sp.runOf (litM (Dd.nM x)) (decide ((2 : Int) = 1)) 0 = (1, 14) from HE.out.2.2.1] at this; exact this)
          rw [HW0.out] at HF
          have HRI : Hid (∀ W, Calls Tryz.prog 20 #[.int .i64 x] W (fun e w' => e = .returned (.bool true) ∧ W = w')) := Lib.hid (fun W => by have := ref3_Rich x W; rw [HB0.out] at this; exact this)
          go_wp2_with (first | ((go_at_call 20); (with_reducible refine (HRI.out _).mono ?_); rintro e w' ⟨rfl, rfl⟩) | ((go_at_call 21); (with_reducible refine HF.out.mono ?_); rintro e w1 ⟨rfl, hb⟩; rw [← HW0.out] at hb; have HB1 := Lib.hid hb; clear hb))
          have hz1 := HB1.out.size
          have hz0 := HZ.out
          have y0 := (HB1.out.block (wr.heap.size) (by omega)).trans HX.out.1
          have y1 := (HB1.out.block (wr.heap.size + 1) (by omega)).trans HX.out.2.1
          have y2 := (HB1.out.block (wr.heap.size + 1 + 1) (by omega)).trans HX.out.2.2.1
          have y3 := (HB1.out.block (wr.heap.size + 1 + 1 + 1) (by omega)).trans HX.out.2.2.2.1
          have y4 := (HB1.out.block (wr.heap.size + 1 + 1 + 1 + 1) (by omega)).trans HX.out.2.2.2.2.1
          have y5 := (HB1.out.block (wr.heap.size + 1 + 1 + 1 + 1 + 1) (by omega)).trans HX.out.2.2.2.2.2.1
          have y6 := (HB1.out.block (wr.heap.size + 1 + 1 + 1 + 1 + 1 + 1) (by omega)).trans HX.out.2.2.2.2.2.2.1
          have y7 := (HB1.out.block (wr.heap.size + 1 + 1 + 1 + 1 + 1 + 1 + 1) (by omega)).trans HX.out.2.2.2.2.2.2.2
          have HMP : Hid (∀ W, Below w1.heap.size w1 W → Calls Tryz.prog 18 #[.agg #[.slice (some ⟨wr.heap.size, 0, none⟩) 1 1, .slice none 0 0, .slice (some ⟨wr.heap.size + 1 + 1, 0, none⟩) 1 1, .slice none 0 0, .slice none 0 0, .slice none 0 0, .slice none 0 0, .slice none 0 0], .int .i64 2] W (ErrEnd 0 W)) := Lib.hid (fun W hb => by have := lit_Module (c := Dd.mM x) HM3.out (litCs (wr.heap.size) (wr.heap.size + 1 + 1)) 2 W (lit_K (c := Dd.mM x) (B1 := wr.heap.size + 1) ((hb.block _ (blk_lt y0)).trans y0) ((hb.block _ (blk_lt y1)).trans y1) ((hb.block _ (blk_lt y2)).trans y2) HM4.out (by show (4 : Nat) ≤ _; omega)); rw [show Sp.moduleErr (litM (Dd.mM x)) 2 = 0 from HE.out.1] at this; exact this)
          have HNP : Hid (∀ W, Below w1.heap.size w1 W → Calls Tryz.prog 18 #[.agg #[.slice (some ⟨wr.heap.size + 1 + 1 + 1 + 1, 0, none⟩) 1 1, .slice none 0 0, .slice (some ⟨wr.heap.size + 1 + 1 + 1 + 1 + 1 + 1, 0, none⟩) 1 1, .slice none 0 0, .slice none 0 0, .slice none 0 0, .slice none 0 0, .slice none 0 0], .int .i64 2] W (ErrEnd 14 W)) := Lib.hid (fun W hb => by have := lit_Module (c := Dd.nM x) HN3.out (litCs (wr.heap.size + 1 + 1 + 1 + 1) (wr.heap.size + 1 + 1 + 1 + 1 + 1 + 1)) 2 W (lit_K (c := Dd.nM x) (B1 := wr.heap.size + 1 + 1 + 1 + 1 + 1) ((hb.block _ (blk_lt y4)).trans y4) ((hb.block _ (blk_lt y5)).trans y5) ((hb.block _ (blk_lt y6)).trans y6) HN4.out (by show (4 : Nat) ≤ _; omega)); rw [show Sp.moduleErr (litM (Dd.nM x)) 2 = 14 from HE.out.2.1] at this; exact this)
          have HMQ : Hid (∀ W, Below w1.heap.size w1 W → Calls Tryz.prog 18 #[.agg #[.slice (some ⟨wr.heap.size, 0, none⟩) 1 1, .slice none 0 0, .slice (some ⟨wr.heap.size + 1 + 1, 0, none⟩) 1 1, .slice none 0 0, .slice none 0 0, .slice none 0 0, .slice none 0 0, .slice none 0 0], .int .i64 1] W (ErrEnd 24 W)) := Lib.hid (fun W hb => by have := lit_Module (c := Dd.mM x) HM3.out (litCs (wr.heap.size) (wr.heap.size + 1 + 1)) 1 W (lit_K (c := Dd.mM x) (B1 := wr.heap.size + 1) ((hb.block _ (blk_lt y0)).trans y0) ((hb.block _ (blk_lt y1)).trans y1) ((hb.block _ (blk_lt y2)).trans y2) HM4.out (by show (4 : Nat) ≤ _; omega)); rw [show Sp.moduleErr (litM (Dd.mM x)) 1 = 24 from HE.out.2.2.2] at this; exact this)
          have HY3 := Lib.hid y3; have HY7 := Lib.hid y7
          have HBW := Lib.hid (below_then HB.out HB.out.size (HBA.out))
          clear hz0 hz1 y0 y1 y2 y3 y4 y5 y6 y7
          refine start_ (n := 30) (S := fun w' => Below w1.heap.size w1 w') (ds := []) #[false, false, false, false, false, false, false, false, false, false, false, false, false, false, false, false, false, false, false, false, false, false, false, false, false, false, false, false, false, false] (by kernel_rfl) rfl rfl (below_drew (Below.refl _ _)) (fun hHeld => ?_)
          refine take_ (i := 0) (N := some 77) (v := ?_) (a' := ?_) #[true, false, false, false, false, false, false, false, false, false, false, false, false, false, false, false, false, false, false, false, false, false, false, false, false, false, false, false, false, false] rfl rfl (by kernel_rfl) (fun _ _ _ h => h) (Or.inl ⟨by rfl, ?_⟩) hHeld ?_ ?_
          rotate_left
          · intro w' s0
            have y := (s0.block _ (blk_lt HY3.out)).trans HY3.out
            have q0 := (blk_cell y 0).trans rfl
            have q1 := (blk_cell y 1).trans rfl
            have q2 := (blk_cell y 2).trans rfl
            have q3 := (blk_cell y 3).trans rfl
            have q4 := (blk_cell y 4).trans rfl
            have q5 := (blk_cell y 5).trans rfl
            have q6 := (blk_cell y 6).trans rfl
            have q7 := (blk_cell y 7).trans rfl
            clear y
            go_simp
            try with_reducible rfl
          rotate_left
          · simp only [Act.put, List.setIfInBounds_toArray, List.set_cons_zero, List.set_cons_succ, i64_w, i32_w]
            rfl
          refine pure_ (i := 1) (N := some 78) (v := ?_) (a' := ?_) #[true, true, false, false, false, false, false, false, false, false, false, false, false, false, false, false, false, false, false, false, false, false, false, false, false, false, false, false, false, false] rfl rfl (by kernel_rfl) (fun _ _ _ h => h) (Or.inl ⟨by rfl, ?_⟩) ?_ ?_
          rotate_left
          · intro w'
            go_simp
            try with_reducible rfl
          rotate_left
          · simp only [Act.put, List.setIfInBounds_toArray, List.set_cons_zero, List.set_cons_succ, i64_w, i32_w]
            rfl
          refine one_ (i := 2) (N := some 79) #[true, true, true, false, false, false, false, false, false, false, false, false, false, false, false, false, false, false, false, false, false, false, false, false, false, false, false, false, false, false] rfl rfl (by kernel_rfl) (by decide) (fun K hK => ?_)
          refine goes_ Tryz.func18 (by kernel_rfl) rfl #[.agg #[.slice (some ⟨wr.heap.size, 0, none⟩) 1 1, .slice none 0 0, .slice (some ⟨wr.heap.size + 1 + 1, 0, none⟩) 1 1, .slice none 0 0, .slice none 0 0, .slice none 0 0, .slice none 0 0, .slice none 0 0], .int .i64 2] (by rfl) rfl rfl (by first | rfl | (simp only [List.map_toArray, List.map_cons, List.map_nil]; rfl)) ?_
          refine (HMP.out _ hHeld).mono ?_
          rintro e w2 ⟨rfl, hb⟩
          have HH2 := Lib.hid (below_then hHeld hHeld.size hb)
          clear hb
          refine ⟨_, rfl, ?_⟩
          refine hK.out _ _ HH2.out (fun hHeld => ?_)
          clear hK K
          refine norm_ (a' := ?_) ?_ ?_
          rotate_left
          · show Act.put _ (some 79) _ = _
            simp only [Act.put, List.setIfInBounds_toArray, List.set_cons_zero, List.set_cons_succ, i64_w, i32_w]
            rfl
          refine pure_ (i := 3) (N := some 80) (v := ?_) (a' := ?_) #[true, true, true, true, false, false, false, false, false, false, false, false, false, false, false, false, false, false, false, false, false, false, false, false, false, false, false, false, false, false] rfl rfl (by kernel_rfl) (fun _ _ _ h => h) (Or.inl ⟨by rfl, ?_⟩) ?_ ?_
          rotate_left
          · intro w'
            go_simp
            try with_reducible rfl
          rotate_left
          · simp only [Act.put, List.setIfInBounds_toArray, List.set_cons_zero, List.set_cons_succ, i64_w, i32_w]
            rfl
          refine pure_ (i := 4) (N := some 81) (v := ?_) (a' := ?_) #[true, true, true, true, true, false, false, false, false, false, false, false, false, false, false, false, false, false, false, false, false, false, false, false, false, false, false, false, false, false] rfl rfl (by kernel_rfl) (fun _ _ _ h => h) (Or.inl ⟨by rfl, ?_⟩) ?_ ?_
          rotate_left
          · intro w'
            go_simp
            try with_reducible rfl
          rotate_left
          · simp only [Act.put, List.setIfInBounds_toArray, List.set_cons_zero, List.set_cons_succ, i64_w, i32_w]
            rfl
          refine take_ (i := 5) (N := some 82) (v := ?_) (a' := ?_) #[true, true, true, true, true, true, false, false, false, false, false, false, false, false, false, false, false, false, false, false, false, false, false, false, false, false, false, false, false, false] rfl rfl (by kernel_rfl) (fun _ _ _ h => h) (Or.inl ⟨by rfl, ?_⟩) hHeld ?_ ?_
          rotate_left
          · intro w' s0
            have y := (s0.block _ (blk_lt HY7.out)).trans HY7.out
            have q0 := (blk_cell y 0).trans rfl
            have q1 := (blk_cell y 1).trans rfl
            have q2 := (blk_cell y 2).trans rfl
            have q3 := (blk_cell y 3).trans rfl
            have q4 := (blk_cell y 4).trans rfl
            have q5 := (blk_cell y 5).trans rfl
            have q6 := (blk_cell y 6).trans rfl
            have q7 := (blk_cell y 7).trans rfl
            clear y
            go_simp
            try with_reducible rfl
          rotate_left
          · simp only [Act.put, List.setIfInBounds_toArray, List.set_cons_zero, List.set_cons_succ, i64_w, i32_w]
            rfl
          refine pure_ (i := 6) (N := some 83) (v := ?_) (a' := ?_) #[true, true, true, true, true, true, true, false, false, false, false, false, false, false, false, false, false, false, false, false, false, false, false, false, false, false, false, false, false, false] rfl rfl (by kernel_rfl) (fun _ _ _ h => h) (Or.inl ⟨by rfl, ?_⟩) ?_ ?_
          rotate_left
          · intro w'
            go_simp
            try with_reducible rfl
          rotate_left
          · simp only [Act.put, List.setIfInBounds_toArray, List.set_cons_zero, List.set_cons_succ, i64_w, i32_w]
            rfl
          refine one_ (i := 7) (N := some 84) #[true, true, true, true, true, true, true, true, false, false, false, false, false, false, false, false, false, false, false, false, false, false, false, false, false, false, false, false, false, false] rfl rfl (by kernel_rfl) (by decide) (fun K hK => ?_)
          refine goes_ Tryz.func18 (by kernel_rfl) rfl #[.agg #[.slice (some ⟨wr.heap.size + 1 + 1 + 1 + 1, 0, none⟩) 1 1, .slice none 0 0, .slice (some ⟨wr.heap.size + 1 + 1 + 1 + 1 + 1 + 1, 0, none⟩) 1 1, .slice none 0 0, .slice none 0 0, .slice none 0 0, .slice none 0 0, .slice none 0 0], .int .i64 2] (by rfl) rfl rfl (by first | rfl | (simp only [List.map_toArray, List.map_cons, List.map_nil]; rfl)) ?_
          refine (HNP.out _ hHeld).mono ?_
          rintro e w3 ⟨rfl, hb⟩
          have HH3 := Lib.hid (below_then hHeld hHeld.size hb)
          clear hb
          refine ⟨_, rfl, ?_⟩
          refine hK.out _ _ HH3.out (fun hHeld => ?_)
          clear hK K
          refine norm_ (a' := ?_) ?_ ?_
          rotate_left
          · show Act.put _ (some 84) _ = _
            simp only [Act.put, List.setIfInBounds_toArray, List.set_cons_zero, List.set_cons_succ, i64_w, i32_w]
            rfl
          refine pure_ (i := 8) (N := some 85) (v := ?_) (a' := ?_) #[true, true, true, true, true, true, true, true, true, false, false, false, false, false, false, false, false, false, false, false, false, false, false, false, false, false, false, false, false, false] rfl rfl (by kernel_rfl) (fun _ _ _ h => h) (Or.inl ⟨by rfl, ?_⟩) ?_ ?_
          rotate_left
          · intro w'
            go_simp
            try with_reducible rfl
          rotate_left
          · simp only [Act.put, List.setIfInBounds_toArray, List.set_cons_zero, List.set_cons_succ, i64_w, i32_w]
            rfl
          refine pure_ (i := 9) (N := some 86) (v := ?_) (a' := ?_) #[true, true, true, true, true, true, true, true, true, true, false, false, false, false, false, false, false, false, false, false, false, false, false, false, false, false, false, false, false, false] rfl rfl (by kernel_rfl) (fun _ _ _ h => h) (Or.inl ⟨by rfl, ?_⟩) ?_ ?_
          rotate_left
          · intro w'
            go_simp
            try with_reducible rfl
          rotate_left
          · simp only [Act.put, List.setIfInBounds_toArray, List.set_cons_zero, List.set_cons_succ, i64_w, i32_w]
            rfl
          refine pure_ (i := 10) (N := some 87) (v := ?_) (a' := ?_) #[true, true, true, true, true, true, true, true, true, true, true, false, false, false, false, false, false, false, false, false, false, false, false, false, false, false, false, false, false, false] rfl rfl (by kernel_rfl) (fun _ _ _ h => h) (Or.inl ⟨by rfl, ?_⟩) ?_ ?_
          rotate_left
          · intro w'
            go_simp
            try with_reducible rfl
          rotate_left
          · simp only [Act.put, List.setIfInBounds_toArray, List.set_cons_zero, List.set_cons_succ, i64_w, i32_w]
            rfl
          refine pure_ (i := 11) (N := some 88) (v := ?_) (a' := ?_) #[true, true, true, true, true, true, true, true, true, true, true, true, false, false, false, false, false, false, false, false, false, false, false, false, false, false, false, false, false, false] rfl rfl (by kernel_rfl) (fun _ _ _ h => h) (Or.inl ⟨by rfl, ?_⟩) ?_ ?_
          rotate_left
          · intro w'
            go_simp
            try with_reducible rfl
          rotate_left
          · simp only [Act.put, List.setIfInBounds_toArray, List.set_cons_zero, List.set_cons_succ, i64_w, i32_w]
            rfl
          refine pure_ (i := 12) (N := some 89) (v := ?_) (a' := ?_) #[true, true, true, true, true, true, true, true, true, true, true, true, true, false, false, false, false, false, false, false, false, false, false, false, false, false, false, false, false, false] rfl rfl (by kernel_rfl) (fun _ _ _ h => h) (Or.inl ⟨by rfl, ?_⟩) ?_ ?_
          rotate_left
          · intro w'
            go_simp
            try with_reducible rfl
          rotate_left
          · simp only [Act.put, List.setIfInBounds_toArray, List.set_cons_zero, List.set_cons_succ, i64_w, i32_w]
            rfl
          refine pure_ (i := 13) (N := some 90) (v := ?_) (a' := ?_) #[true, true, true, true, true, true, true, true, true, true, true, true, true, true, false, false, false, false, false, false, false, false, false, false, false, false, false, false, false, false] rfl rfl (by kernel_rfl) (fun _ _ _ h => h) (Or.inl ⟨by rfl, ?_⟩) ?_ ?_
          rotate_left
          · intro w'
            go_simp
            try with_reducible rfl
          rotate_left
          · simp only [Act.put, List.setIfInBounds_toArray, List.set_cons_zero, List.set_cons_succ, i64_w, i32_w]
            rfl
          refine pure_ (i := 14) (N := some 91) (v := ?_) (a' := ?_) #[true, true, true, true, true, true, true, true, true, true, true, true, true, true, true, false, false, false, false, false, false, false, false, false, false, false, false, false, false, false] rfl rfl (by kernel_rfl) (fun _ _ _ h => h) (Or.inl ⟨by rfl, ?_⟩) ?_ ?_
          rotate_left
          · intro w'
            go_simp
            try with_reducible rfl
          rotate_left
          · simp only [Act.put, List.setIfInBounds_toArray, List.set_cons_zero, List.set_cons_succ, i64_w, i32_w]
            rfl
          refine pure_ (i := 15) (N := some 92) (v := ?_) (a' := ?_) #[true, true, true, true, true, true, true, true, true, true, true, true, true, true, true, true, false, false, false, false, false, false, false, false, false, false, false, false, false, false] rfl rfl (by kernel_rfl) (fun _ _ _ h => h) (Or.inl ⟨by rfl, ?_⟩) ?_ ?_
          rotate_left
          · intro w'
            go_simp
            try with_reducible rfl
          rotate_left
          · simp only [Act.put, List.setIfInBounds_toArray, List.set_cons_zero, List.set_cons_succ, i64_w, i32_w]
            rfl
          refine pure_ (i := 16) (N := some 93) (v := ?_) (a' := ?_) #[true, true, true, true, true, true, true, true, true, true, true, true, true, true, true, true, true, false, false, false, false, false, false, false, false, false, false, false, false, false] rfl rfl (by kernel_rfl) (fun _ _ _ h => h) (Or.inl ⟨by rfl, ?_⟩) ?_ ?_
          rotate_left
          · intro w'
            go_simp
            try with_reducible rfl
          rotate_left
          · simp only [Act.put, List.setIfInBounds_toArray, List.set_cons_zero, List.set_cons_succ, i64_w, i32_w]
            rfl
          refine pure_ (i := 17) (N := some 94) (v := ?_) (a' := ?_) #[true, true, true, true, true, true, true, true, true, true, true, true, true, true, true, true, true, true, false, false, false, false, false, false, false, false, false, false, false, false] rfl rfl (by kernel_rfl) (fun _ _ _ h => h) (Or.inl ⟨by rfl, ?_⟩) ?_ ?_
          rotate_left
          · intro w'
            go_simp
            try with_reducible rfl
          rotate_left
          · simp only [Act.put, List.setIfInBounds_toArray, List.set_cons_zero, List.set_cons_succ, i64_w, i32_w]
            rfl
          refine pure_ (i := 18) (N := some 95) (v := ?_) (a' := ?_) #[true, true, true, true, true, true, true, true, true, true, true, true, true, true, true, true, true, true, true, false, false, false, false, false, false, false, false, false, false, false] rfl rfl (by kernel_rfl) (fun _ _ _ h => h) (Or.inl ⟨by rfl, ?_⟩) ?_ ?_
          rotate_left
          · intro w'
            go_simp
            try with_reducible rfl
          rotate_left
          · simp only [Act.put, List.setIfInBounds_toArray, List.set_cons_zero, List.set_cons_succ, i64_w, i32_w]
            rfl
          refine pure_ (i := 19) (N := some 96) (v := ?_) (a' := ?_) #[true, true, true, true, true, true, true, true, true, true, true, true, true, true, true, true, true, true, true, true, false, false, false, false, false, false, false, false, false, false] rfl rfl (by kernel_rfl) (fun _ _ _ h => h) (Or.inl ⟨by rfl, ?_⟩) ?_ ?_
          rotate_left
          · intro w'
            go_simp
            try with_reducible rfl
          rotate_left
          · simp only [Act.put, List.setIfInBounds_toArray, List.set_cons_zero, List.set_cons_succ, i64_w, i32_w]
            rfl
          refine take_ (i := 21) (N := some 98) (v := ?_) (a' := ?_) #[true, true, true, true, true, true, true, true, true, true, true, true, true, true, true, true, true, true, true, true, false, true, false, false, false, false, false, false, false, false] rfl rfl (by kernel_rfl) (fun _ _ _ h => h) (Or.inl ⟨by rfl, ?_⟩) hHeld ?_ ?_
          rotate_left
          · intro w' s0
            have y := (s0.block _ (blk_lt HY3.out)).trans HY3.out
            have q0 := (blk_cell y 0).trans rfl
            have q1 := (blk_cell y 1).trans rfl
            have q2 := (blk_cell y 2).trans rfl
            have q3 := (blk_cell y 3).trans rfl
            have q4 := (blk_cell y 4).trans rfl
            have q5 := (blk_cell y 5).trans rfl
            have q6 := (blk_cell y 6).trans rfl
            have q7 := (blk_cell y 7).trans rfl
            clear y
            go_simp
            try with_reducible rfl
          rotate_left
          · simp only [Act.put, List.setIfInBounds_toArray, List.set_cons_zero, List.set_cons_succ, i64_w, i32_w]
            rfl
          refine one_ (i := 20) (N := some 97) #[true, true, true, true, true, true, true, true, true, true, true, true, true, true, true, true, true, true, true, true, true, true, false, false, false, false, false, false, false, false] rfl rfl (by kernel_rfl) (by decide) (fun K hK => ?_)
          refine goes_ Tryz.func20 (by kernel_rfl) rfl #[.int .i64 x] (by rfl) rfl rfl (by first | rfl | (simp only [List.map_toArray, List.map_cons, List.map_nil]; rfl)) ?_
          refine (HRI.out _).mono ?_
          rintro e w' ⟨rfl, rfl⟩
          refine ⟨_, rfl, ?_⟩
          refine hK.out _ _ hHeld (fun hHeld => ?_)
          clear hK K
          refine norm_ (a' := ?_) ?_ ?_
          rotate_left
          · show Act.put _ (some 97) _ = _
            simp only [Act.put, List.setIfInBounds_toArray, List.set_cons_zero, List.set_cons_succ, i64_w, i32_w]
            rfl
          refine one_ (i := 22) (N := some 99) #[true, true, true, true, true, true, true, true, true, true, true, true, true, true, true, true, true, true, true, true, true, true, true, false, false, false, false, false, false, false] rfl rfl (by kernel_rfl) (by decide) (fun K hK => ?_)
          refine goes_ Tryz.func18 (by kernel_rfl) rfl #[.agg #[.slice (some ⟨wr.heap.size, 0, none⟩) 1 1, .slice none 0 0, .slice (some ⟨wr.heap.size + 1 + 1, 0, none⟩) 1 1, .slice none 0 0, .slice none 0 0, .slice none 0 0, .slice none 0 0, .slice none 0 0], .int .i64 1] (by rfl) rfl rfl (by first | rfl | (simp only [List.map_toArray, List.map_cons, List.map_nil]; rfl)) ?_
          refine (HMQ.out _ hHeld).mono ?_
          rintro e w4 ⟨rfl, hb⟩
          have HH4 := Lib.hid (below_then hHeld hHeld.size hb)
          clear hb
          refine ⟨_, rfl, ?_⟩
          refine hK.out _ _ HH4.out (fun hHeld => ?_)
          clear hK K
          refine norm_ (a' := ?_) ?_ ?_
          rotate_left
          · show Act.put _ (some 99) _ = _
            simp only [Act.put, List.setIfInBounds_toArray, List.set_cons_zero, List.set_cons_succ, i64_w, i32_w]
            rfl
          refine pure_ (i := 23) (N := some 100) (v := ?_) (a' := ?_) #[true, true, true, true, true, true, true, true, true, true, true, true, true, true, true, true, true, true, true, true, true, true, true, true, false, false, false, false, false, false] rfl rfl (by kernel_rfl) (fun _ _ _ h => h) (Or.inl ⟨by rfl, ?_⟩) ?_ ?_
          rotate_left
          · intro w'
            go_simp
            try with_reducible rfl
          rotate_left
          · simp only [Act.put, List.setIfInBounds_toArray, List.set_cons_zero, List.set_cons_succ, i64_w, i32_w]
            rfl
          refine pure_ (i := 24) (N := some 101) (v := ?_) (a' := ?_) #[true, true, true, true, true, true, true, true, true, true, true, true, true, true, true, true, true, true, true, true, true, true, true, true, true, false, false, false, false, false] rfl rfl (by kernel_rfl) (fun _ _ _ h => h) (Or.inl ⟨by rfl, ?_⟩) ?_ ?_
          rotate_left
          · intro w'
            go_simp
            try with_reducible rfl
          rotate_left
          · simp only [Act.put, List.setIfInBounds_toArray, List.set_cons_zero, List.set_cons_succ, i64_w, i32_w]
            rfl
          refine pure_ (i := 25) (N := some 102) (v := ?_) (a' := ?_) #[true, true, true, true, true, true, true, true, true, true, true, true, true, true, true, true, true, true, true, true, true, true, true, true, true, true, false, false, false, false] rfl rfl (by kernel_rfl) (fun _ _ _ h => h) (Or.inl ⟨by rfl, ?_⟩) ?_ ?_
          rotate_left
          · intro w'
            go_simp
            try with_reducible rfl
          rotate_left
          · simp only [Act.put, List.setIfInBounds_toArray, List.set_cons_zero, List.set_cons_succ, i64_w, i32_w]
            rfl
          refine pure_ (i := 26) (N := some 103) (v := ?_) (a' := ?_) #[true, true, true, true, true, true, true, true, true, true, true, true, true, true, true, true, true, true, true, true, true, true, true, true, true, true, true, false, false, false] rfl rfl (by kernel_rfl) (fun _ _ _ h => h) (Or.inl ⟨by rfl, ?_⟩) ?_ ?_
          rotate_left
          · intro w'
            go_simp
            try with_reducible rfl
          rotate_left
          · simp only [Act.put, List.setIfInBounds_toArray, List.set_cons_zero, List.set_cons_succ, i64_w, i32_w]
            rfl
          refine one_ (i := 27) (N := some 104) #[true, true, true, true, true, true, true, true, true, true, true, true, true, true, true, true, true, true, true, true, true, true, true, true, true, true, true, true, false, false] rfl rfl (by kernel_rfl) (by decide) (fun K hK => ?_)
          refine goes_ Tryz.func15 (by kernel_rfl) rfl #[] (by rfl) rfl rfl (by simp only [List.map_toArray, List.map_nil]) ?_
          refine (HKN.out _).mono ?_
          rintro e w5 ⟨rfl, hb⟩
          have HH5 := Lib.hid (below_then hHeld hHeld.size hb)
          clear hb
          refine ⟨_, rfl, ?_⟩
          refine hK.out _ _ HH5.out (fun hHeld => ?_)
          clear hK K
          refine norm_ (a' := ?_) ?_ ?_
          rotate_left
          · show Act.put _ (some 104) _ = _
            simp only [Act.put, List.setIfInBounds_toArray, List.set_cons_zero, List.set_cons_succ, i64_w, i32_w]
            rfl
          refine pure_ (i := 28) (N := some 105) (v := ?_) (a' := ?_) #[true, true, true, true, true, true, true, true, true, true, true, true, true, true, true, true, true, true, true, true, true, true, true, true, true, true, true, true, true, false] rfl rfl (by kernel_rfl) (fun _ _ _ h => h) (Or.inl ⟨by rfl, ?_⟩) ?_ ?_
          rotate_left
          · intro w'
            go_simp
            try with_reducible rfl
          rotate_left
          · simp only [Act.put, List.setIfInBounds_toArray, List.set_cons_zero, List.set_cons_succ, i64_w, i32_w]
            rfl
          refine pure_ (i := 29) (N := some 4) (v := ?_) (a' := ?_) #[true, true, true, true, true, true, true, true, true, true, true, true, true, true, true, true, true, true, true, true, true, true, true, true, true, true, true, true, true, true] rfl rfl (by kernel_rfl) (fun _ _ _ h => h) (Or.inl ⟨by rfl, ?_⟩) ?_ ?_
          rotate_left
          · intro w'
            go_simp
            try with_reducible rfl
          rotate_left
          · simp only [Act.put, List.setIfInBounds_toArray, List.set_cons_zero, List.set_cons_succ, i64_w, i32_w]
            rfl
          refine done_ (by kernel_rfl) ?_
          go_wp2_with fail
          go_ret
          exact ⟨rfl, below_then HBW.out HBW.out.size (below_then HB1.out HB1.out.size HH5.out)⟩
      | false =>
        have HB0 := Lib.hid hbr
        have HE := Lib.hid (Dd.ok_plain HE0.out.1 hbr)
        clear hbr
        cases rich with
        | true =>
          have HF : Hid (Calls Tryz.prog 21 #[.agg #[.slice (some ⟨wr.heap.size + 1 + 1 + 1 + 1, 0, none⟩) 1 1, .slice none 0 0, .slice (some ⟨wr.heap.size + 1 + 1 + 1 + 1 + 1 + 1, 0, none⟩) 1 1, .slice none 0 0, .slice none 0 0, .slice none 0 0, .slice none 0 0, .slice none 0 0], .int .i64 0, .int .i64 2] W0 (FuncEnd (1, 14) W0)) := Lib.hid (by have := lit_Func (c := Dd.nM x) HN3.out (litCs (wr.heap.size + 1 + 1 + 1 + 1) (wr.heap.size + 1 + 1 + 1 + 1 + 1 + 1)) 2 (.inr rfl) W0 (lit_K (c := Dd.nM x) (B1 := wr.heap.size + 1 + 1 + 1 + 1 + 1) HX.out.2.2.2.2.1 HX.out.2.2.2.2.2.1 HX.out.2.2.2.2.2.2.1 HN4.out (by show (4 : Nat) ≤ _; omega)) HNR.out; rw [show Sp.runOf (litM (Dd.nM x)) (decide ((2 : Int) = 1)) 0 = (1, 14) from HE.out.2.2.1] at this; exact this)
          rw [HW0.out] at HF
          have HRI : Hid (∀ W, Calls Tryz.prog 20 #[.int .i64 x] W (fun e w' => e = .returned (.bool false) ∧ W = w')) := Lib.hid (fun W => by have := ref3_Rich x W; rw [HB0.out] at this; exact this)
          go_wp2_with (first | ((go_at_call 20); (with_reducible refine (HRI.out _).mono ?_); rintro e w' ⟨rfl, rfl⟩) | ((go_at_call 21); (with_reducible refine HF.out.mono ?_); rintro e w1 ⟨rfl, hb⟩; rw [← HW0.out] at hb; have HB1 := Lib.hid hb; clear hb))
          have hz1 := HB1.out.size
          have hz0 := HZ.out
          have y0 := (HB1.out.block (wr.heap.size) (by omega)).trans HX.out.1
          have y1 := (HB1.out.block (wr.heap.size + 1) (by omega)).trans HX.out.2.1
          have y2 := (HB1.out.block (wr.heap.size + 1 + 1) (by omega)).trans HX.out.2.2.1
          have y3 := (HB1.out.block (wr.heap.size + 1 + 1 + 1) (by omega)).trans HX.out.2.2.2.1
          have y4 := (HB1.out.block (wr.heap.size + 1 + 1 + 1 + 1) (by omega)).trans HX.out.2.2.2.2.1
          have y5 := (HB1.out.block (wr.heap.size + 1 + 1 + 1 + 1 + 1) (by omega)).trans HX.out.2.2.2.2.2.1
          have y6 := (HB1.out.block (wr.heap.size + 1 + 1 + 1 + 1 + 1 + 1) (by omega)).trans HX.out.2.2.2.2.2.2.1
          have y7 := (HB1.out.block (wr.heap.size + 1 + 1 + 1 + 1 + 1 + 1 + 1) (by omega)).trans HX.out.2.2.2.2.2.2.2
          have HMP : Hid (∀ W, Below w1.heap.size w1 W → Calls Tryz.prog 18 #[.agg #[.slice (some ⟨wr.heap.size, 0, none⟩) 1 1, .slice none 0 0, .slice (some ⟨wr.heap.size + 1 + 1, 0, none⟩) 1 1, .slice none 0 0, .slice none 0 0, .slice none 0 0, .slice none 0 0, .slice none 0 0], .int .i64 2] W (ErrEnd 0 W)) := Lib.hid (fun W hb => by have := lit_Module (c := Dd.mM x) HM3.out (litCs (wr.heap.size) (wr.heap.size + 1 + 1)) 2 W (lit_K (c := Dd.mM x) (B1 := wr.heap.size + 1) ((hb.block _ (blk_lt y0)).trans y0) ((hb.block _ (blk_lt y1)).trans y1) ((hb.block _ (blk_lt y2)).trans y2) HM4.out (by show (4 : Nat) ≤ _; omega)); rw [show Sp.moduleErr (litM (Dd.mM x)) 2 = 0 from HE.out.1] at this; exact this)
          have HNP : Hid (∀ W, Below w1.heap.size w1 W → Calls Tryz.prog 18 #[.agg #[.slice (some ⟨wr.heap.size + 1 + 1 + 1 + 1, 0, none⟩) 1 1, .slice none 0 0, .slice (some ⟨wr.heap.size + 1 + 1 + 1 + 1 + 1 + 1, 0, none⟩) 1 1, .slice none 0 0, .slice none 0 0, .slice none 0 0, .slice none 0 0, .slice none 0 0], .int .i64 2] W (ErrEnd 14 W)) := Lib.hid (fun W hb => by have := lit_Module (c := Dd.nM x) HN3.out (litCs (wr.heap.size + 1 + 1 + 1 + 1) (wr.heap.size + 1 + 1 + 1 + 1 + 1 + 1)) 2 W (lit_K (c := Dd.nM x) (B1 := wr.heap.size + 1 + 1 + 1 + 1 + 1) ((hb.block _ (blk_lt y4)).trans y4) ((hb.block _ (blk_lt y5)).trans y5) ((hb.block _ (blk_lt y6)).trans y6) HN4.out (by show (4 : Nat) ≤ _; omega)); rw [show Sp.moduleErr (litM (Dd.nM x)) 2 = 14 from HE.out.2.1] at this; exact this)
          have HMQ : Hid (∀ W, Below w1.heap.size w1 W → Calls Tryz.prog 18 #[.agg #[.slice (some ⟨wr.heap.size, 0, none⟩) 1 1, .slice none 0 0, .slice (some ⟨wr.heap.size + 1 + 1, 0, none⟩) 1 1, .slice none 0 0, .slice none 0 0, .slice none 0 0, .slice none 0 0, .slice none 0 0], .int .i64 1] W (ErrEnd 0 W)) := Lib.hid (fun W hb => by have := lit_Module (c := Dd.mM x) HM3.out (litCs (wr.heap.size) (wr.heap.size + 1 + 1)) 1 W (lit_K (c := Dd.mM x) (B1 := wr.heap.size + 1) ((hb.block _ (blk_lt y0)).trans y0) ((hb.block _ (blk_lt y1)).trans y1) ((hb.block _ (blk_lt y2)).trans y2) HM4.out (by show (4 : Nat) ≤ _; omega)); rw [show Sp.moduleErr (litM (Dd.mM x)) 1 = 0 from HE.out.2.2.2.1] at this; exact this)
          have HY3 := Lib.hid y3; have HY7 := Lib.hid y7
          have HBW := Lib.hid (below_then HB.out HB.out.size (HBA.out))
          clear hz0 hz1 y0 y1 y2 y3 y4 y5 y6 y7
          refine start_ (n := 30) (S := fun w' => Below w1.heap.size w1 w') (ds := []) #[false, false, false, false, false, false, false, false, false, false, false, false, false, false, false, false, false, false, false, false, false, false, false, false, false, false, false, false, false, false] (by kernel_rfl) rfl rfl (below_drew (Below.refl _ _)) (fun hHeld => ?_)
          refine take_ (i := 0) (N := some 77) (v := ?_) (a' := ?_) #[true, false, false, false, false, false, false, false, false, false, false, false, false, false, false, false, false, false, false, false, false, false, false, false, false, false, false, false, false, false] rfl rfl (by kernel_rfl) (fun _ _ _ h => h) (Or.inl ⟨by rfl, ?_⟩) hHeld ?_ ?_
          rotate_left
          · intro w' s0
            have y := (s0.block _ (blk_lt HY3.out)).trans HY3.out
            have q0 := (blk_cell y 0).trans rfl
            have q1 := (blk_cell y 1).trans rfl
            have q2 := (blk_cell y 2).trans rfl
            have q3 := (blk_cell y 3).trans rfl
            have q4 := (blk_cell y 4).trans rfl
            have q5 := (blk_cell y 5).trans rfl
            have q6 := (blk_cell y 6).trans rfl
            have q7 := (blk_cell y 7).trans rfl
            clear y
            go_simp
            try with_reducible rfl
          rotate_left
          · simp only [Act.put, List.setIfInBounds_toArray, List.set_cons_zero, List.set_cons_succ, i64_w, i32_w]
            rfl
          refine pure_ (i := 1) (N := some 78) (v := ?_) (a' := ?_) #[true, true, false, false, false, false, false, false, false, false, false, false, false, false, false, false, false, false, false, false, false, false, false, false, false, false, false, false, false, false] rfl rfl (by kernel_rfl) (fun _ _ _ h => h) (Or.inl ⟨by rfl, ?_⟩) ?_ ?_
          rotate_left
          · intro w'
            go_simp
            try with_reducible rfl
          rotate_left
          · simp only [Act.put, List.setIfInBounds_toArray, List.set_cons_zero, List.set_cons_succ, i64_w, i32_w]
            rfl
          refine one_ (i := 2) (N := some 79) #[true, true, true, false, false, false, false, false, false, false, false, false, false, false, false, false, false, false, false, false, false, false, false, false, false, false, false, false, false, false] rfl rfl (by kernel_rfl) (by decide) (fun K hK => ?_)
          refine goes_ Tryz.func18 (by kernel_rfl) rfl #[.agg #[.slice (some ⟨wr.heap.size, 0, none⟩) 1 1, .slice none 0 0, .slice (some ⟨wr.heap.size + 1 + 1, 0, none⟩) 1 1, .slice none 0 0, .slice none 0 0, .slice none 0 0, .slice none 0 0, .slice none 0 0], .int .i64 2] (by rfl) rfl rfl (by first | rfl | (simp only [List.map_toArray, List.map_cons, List.map_nil]; rfl)) ?_
          refine (HMP.out _ hHeld).mono ?_
          rintro e w2 ⟨rfl, hb⟩
          have HH2 := Lib.hid (below_then hHeld hHeld.size hb)
          clear hb
          refine ⟨_, rfl, ?_⟩
          refine hK.out _ _ HH2.out (fun hHeld => ?_)
          clear hK K
          refine norm_ (a' := ?_) ?_ ?_
          rotate_left
          · show Act.put _ (some 79) _ = _
            simp only [Act.put, List.setIfInBounds_toArray, List.set_cons_zero, List.set_cons_succ, i64_w, i32_w]
            rfl
          refine pure_ (i := 3) (N := some 80) (v := ?_) (a' := ?_) #[true, true, true, true, false, false, false, false, false, false, false, false, false, false, false, false, false, false, false, false, false, false, false, false, false, false, false, false, false, false] rfl rfl (by kernel_rfl) (fun _ _ _ h => h) (Or.inl ⟨by rfl, ?_⟩) ?_ ?_
          rotate_left
          · intro w'
            go_simp
            try with_reducible rfl
          rotate_left
          · simp only [Act.put, List.setIfInBounds_toArray, List.set_cons_zero, List.set_cons_succ, i64_w, i32_w]
            rfl
          refine pure_ (i := 4) (N := some 81) (v := ?_) (a' := ?_) #[true, true, true, true, true, false, false, false, false, false, false, false, false, false, false, false, false, false, false, false, false, false, false, false, false, false, false, false, false, false] rfl rfl (by kernel_rfl) (fun _ _ _ h => h) (Or.inl ⟨by rfl, ?_⟩) ?_ ?_
          rotate_left
          · intro w'
            go_simp
            try with_reducible rfl
          rotate_left
          · simp only [Act.put, List.setIfInBounds_toArray, List.set_cons_zero, List.set_cons_succ, i64_w, i32_w]
            rfl
          refine take_ (i := 5) (N := some 82) (v := ?_) (a' := ?_) #[true, true, true, true, true, true, false, false, false, false, false, false, false, false, false, false, false, false, false, false, false, false, false, false, false, false, false, false, false, false] rfl rfl (by kernel_rfl) (fun _ _ _ h => h) (Or.inl ⟨by rfl, ?_⟩) hHeld ?_ ?_
          rotate_left
          · intro w' s0
            have y := (s0.block _ (blk_lt HY7.out)).trans HY7.out
            have q0 := (blk_cell y 0).trans rfl
            have q1 := (blk_cell y 1).trans rfl
            have q2 := (blk_cell y 2).trans rfl
            have q3 := (blk_cell y 3).trans rfl
            have q4 := (blk_cell y 4).trans rfl
            have q5 := (blk_cell y 5).trans rfl
            have q6 := (blk_cell y 6).trans rfl
            have q7 := (blk_cell y 7).trans rfl
            clear y
            go_simp
            try with_reducible rfl
          rotate_left
          · simp only [Act.put, List.setIfInBounds_toArray, List.set_cons_zero, List.set_cons_succ, i64_w, i32_w]
            rfl
          refine pure_ (i := 6) (N := some 83) (v := ?_) (a' := ?_) #[true, true, true, true, true, true, true, false, false, false, false, false, false, false, false, false, false, false, false, false, false, false, false, false, false, false, false, false, false, false] rfl rfl (by kernel_rfl) (fun _ _ _ h => h) (Or.inl ⟨by rfl, ?_⟩) ?_ ?_
          rotate_left
          · intro w'
            go_simp
            try with_reducible rfl
          rotate_left
          · simp only [Act.put, List.setIfInBounds_toArray, List.set_cons_zero, List.set_cons_succ, i64_w, i32_w]
            rfl
          refine one_ (i := 7) (N := some 84) #[true, true, true, true, true, true, true, true, false, false, false, false, false, false, false, false, false, false, false, false, false, false, false, false, false, false, false, false, false, false] rfl rfl (by kernel_rfl) (by decide) (fun K hK => ?_)
          refine goes_ Tryz.func18 (by kernel_rfl) rfl #[.agg #[.slice (some ⟨wr.heap.size + 1 + 1 + 1 + 1, 0, none⟩) 1 1, .slice none 0 0, .slice (some ⟨wr.heap.size + 1 + 1 + 1 + 1 + 1 + 1, 0, none⟩) 1 1, .slice none 0 0, .slice none 0 0, .slice none 0 0, .slice none 0 0, .slice none 0 0], .int .i64 2] (by rfl) rfl rfl (by first | rfl | (simp only [List.map_toArray, List.map_cons, List.map_nil]; rfl)) ?_
          refine (HNP.out _ hHeld).mono ?_
          rintro e w3 ⟨rfl, hb⟩
          have HH3 := Lib.hid (below_then hHeld hHeld.size hb)
          clear hb
          refine ⟨_, rfl, ?_⟩
          refine hK.out _ _ HH3.out (fun hHeld => ?_)
          clear hK K
          refine norm_ (a' := ?_) ?_ ?_
          rotate_left
          · show Act.put _ (some 84) _ = _
            simp only [Act.put, List.setIfInBounds_toArray, List.set_cons_zero, List.set_cons_succ, i64_w, i32_w]
            rfl
          refine pure_ (i := 8) (N := some 85) (v := ?_) (a' := ?_) #[true, true, true, true, true, true, true, true, true, false, false, false, false, false, false, false, false, false, false, false, false, false, false, false, false, false, false, false, false, false] rfl rfl (by kernel_rfl) (fun _ _ _ h => h) (Or.inl ⟨by rfl, ?_⟩) ?_ ?_
          rotate_left
          · intro w'
            go_simp
            try with_reducible rfl
          rotate_left
          · simp only [Act.put, List.setIfInBounds_toArray, List.set_cons_zero, List.set_cons_succ, i64_w, i32_w]
            rfl
          refine pure_ (i := 9) (N := some 86) (v := ?_) (a' := ?_) #[true, true, true, true, true, true, true, true, true, true, false, false, false, false, false, false, false, false, false, false, false, false, false, false, false, false, false, false, false, false] rfl rfl (by kernel_rfl) (fun _ _ _ h => h) (Or.inl ⟨by rfl, ?_⟩) ?_ ?_
          rotate_left
          · intro w'
            go_simp
            try with_reducible rfl
          rotate_left
          · simp only [Act.put, List.setIfInBounds_toArray, List.set_cons_zero, List.set_cons_succ, i64_w, i32_w]
            rfl
          refine pure_ (i := 10) (N := some 87) (v := ?_) (a' := ?_) #[true, true, true, true, true, true, true, true, true, true, true, false, false, false, false, false, false, false, false, false, false, false, false, false, false, false, false, false, false, false] rfl rfl (by kernel_rfl) (fun _ _ _ h => h) (Or.inl ⟨by rfl, ?_⟩) ?_ ?_
          rotate_left
          · intro w'
            go_simp
            try with_reducible rfl
          rotate_left
          · simp only [Act.put, List.setIfInBounds_toArray, List.set_cons_zero, List.set_cons_succ, i64_w, i32_w]
            rfl
          refine pure_ (i := 11) (N := some 88) (v := ?_) (a' := ?_) #[true, true, true, true, true, true, true, true, true, true, true, true, false, false, false, false, false, false, false, false, false, false, false, false, false, false, false, false, false, false] rfl rfl (by kernel_rfl) (fun _ _ _ h => h) (Or.inl ⟨by rfl, ?_⟩) ?_ ?_
          rotate_left
          · intro w'
            go_simp
            try with_reducible rfl
          rotate_left
          · simp only [Act.put, List.setIfInBounds_toArray, List.set_cons_zero, List.set_cons_succ, i64_w, i32_w]
            rfl
          refine pure_ (i := 12) (N := some 89) (v := ?_) (a' := ?_) #[true, true, true, true, true, true, true, true, true, true, true, true, true, false, false, false, false, false, false, false, false, false, false, false, false, false, false, false, false, false] rfl rfl (by kernel_rfl) (fun _ _ _ h => h) (Or.inl ⟨by rfl, ?_⟩) ?_ ?_
          rotate_left
          · intro w'
            go_simp
            try with_reducible rfl
          rotate_left
          · simp only [Act.put, List.setIfInBounds_toArray, List.set_cons_zero, List.set_cons_succ, i64_w, i32_w]
            rfl
          refine pure_ (i := 13) (N := some 90) (v := ?_) (a' := ?_) #[true, true, true, true, true, true, true, true, true, true, true, true, true, true, false, false, false, false, false, false, false, false, false, false, false, false, false, false, false, false] rfl rfl (by kernel_rfl) (fun _ _ _ h => h) (Or.inl ⟨by rfl, ?_⟩) ?_ ?_
          rotate_left
          · intro w'
            go_simp
            try with_reducible rfl
          rotate_left
          · simp only [Act.put, List.setIfInBounds_toArray, List.set_cons_zero, List.set_cons_succ, i64_w, i32_w]
            rfl
          refine pure_ (i := 14) (N := some 91) (v := ?_) (a' := ?_) #[true, true, true, true, true, true, true, true, true, true, true, true, true, true, true, false, false, false, false, false, false, false, false, false, false, false, false, false, false, false] rfl rfl (by kernel_rfl) (fun _ _ _ h => h) (Or.inl ⟨by rfl, ?_⟩) ?_ ?_
          rotate_left
          · intro w'
            go_simp
            try with_reducible rfl
          rotate_left
          · simp only [Act.put, List.setIfInBounds_toArray, List.set_cons_zero, List.set_cons_succ, i64_w, i32_w]
            rfl
          refine pure_ (i := 15) (N := some 92) (v := ?_) (a' := ?_) #[true, true, true, true, true, true, true, true, true, true, true, true, true, true, true, true, false, false, false, false, false, false, false, false, false, false, false, false, false, false] rfl rfl (by kernel_rfl) (fun _ _ _ h => h) (Or.inl ⟨by rfl, ?_⟩) ?_ ?_
          rotate_left
          · intro w'
            go_simp
            try with_reducible rfl
          rotate_left
          · simp only [Act.put, List.setIfInBounds_toArray, List.set_cons_zero, List.set_cons_succ, i64_w, i32_w]
            rfl
          refine pure_ (i := 16) (N := some 93) (v := ?_) (a' := ?_) #[true, true, true, true, true, true, true, true, true, true, true, true, true, true, true, true, true, false, false, false, false, false, false, false, false, false, false, false, false, false] rfl rfl (by kernel_rfl) (fun _ _ _ h => h) (Or.inl ⟨by rfl, ?_⟩) ?_ ?_
          rotate_left
          · intro w'
            go_simp
            try with_reducible rfl
          rotate_left
          · simp only [Act.put, List.setIfInBounds_toArray, List.set_cons_zero, List.set_cons_succ, i64_w, i32_w]
            rfl
          refine pure_ (i := 17) (N := some 94) (v := ?_) (a' := ?_) #[true, true, true, true, true, true, true, true, true, true, true, true, true, true, true, true, true, true, false, false, false, false, false, false, false, false, false, false, false, false] rfl rfl (by kernel_rfl) (fun _ _ _ h => h) (Or.inl ⟨by rfl, ?_⟩) ?_ ?_
          rotate_left
          · intro w'
            go_simp
            try with_reducible rfl
          rotate_left
          · simp only [Act.put, List.setIfInBounds_toArray, List.set_cons_zero, List.set_cons_succ, i64_w, i32_w]
            rfl
          refine pure_ (i := 18) (N := some 95) (v := ?_) (a' := ?_) #[true, true, true, true, true, true, true, true, true, true, true, true, true, true, true, true, true, true, true, false, false, false, false, false, false, false, false, false, false, false] rfl rfl (by kernel_rfl) (fun _ _ _ h => h) (Or.inl ⟨by rfl, ?_⟩) ?_ ?_
          rotate_left
          · intro w'
            go_simp
            try with_reducible rfl
          rotate_left
          · simp only [Act.put, List.setIfInBounds_toArray, List.set_cons_zero, List.set_cons_succ, i64_w, i32_w]
            rfl
          refine pure_ (i := 19) (N := some 96) (v := ?_) (a' := ?_) #[true, true, true, true, true, true, true, true, true, true, true, true, true, true, true, true, true, true, true, true, false, false, false, false, false, false, false, false, false, false] rfl rfl (by kernel_rfl) (fun _ _ _ h => h) (Or.inl ⟨by rfl, ?_⟩) ?_ ?_
          rotate_left
          · intro w'
            go_simp
            try with_reducible rfl
          rotate_left
          · simp only [Act.put, List.setIfInBounds_toArray, List.set_cons_zero, List.set_cons_succ, i64_w, i32_w]
            rfl
          refine take_ (i := 21) (N := some 98) (v := ?_) (a' := ?_) #[true, true, true, true, true, true, true, true, true, true, true, true, true, true, true, true, true, true, true, true, false, true, false, false, false, false, false, false, false, false] rfl rfl (by kernel_rfl) (fun _ _ _ h => h) (Or.inl ⟨by rfl, ?_⟩) hHeld ?_ ?_
          rotate_left
          · intro w' s0
            have y := (s0.block _ (blk_lt HY3.out)).trans HY3.out
            have q0 := (blk_cell y 0).trans rfl
            have q1 := (blk_cell y 1).trans rfl
            have q2 := (blk_cell y 2).trans rfl
            have q3 := (blk_cell y 3).trans rfl
            have q4 := (blk_cell y 4).trans rfl
            have q5 := (blk_cell y 5).trans rfl
            have q6 := (blk_cell y 6).trans rfl
            have q7 := (blk_cell y 7).trans rfl
            clear y
            go_simp
            try with_reducible rfl
          rotate_left
          · simp only [Act.put, List.setIfInBounds_toArray, List.set_cons_zero, List.set_cons_succ, i64_w, i32_w]
            rfl
          refine one_ (i := 20) (N := some 97) #[true, true, true, true, true, true, true, true, true, true, true, true, true, true, true, true, true, true, true, true, true, true, false, false, false, false, false, false, false, false] rfl rfl (by kernel_rfl) (by decide) (fun K hK => ?_)
          refine goes_ Tryz.func20 (by kernel_rfl) rfl #[.int .i64 x] (by rfl) rfl rfl (by first | rfl | (simp only [List.map_toArray, List.map_cons, List.map_nil]; rfl)) ?_
          refine (HRI.out _).mono ?_
          rintro e w' ⟨rfl, rfl⟩
          refine ⟨_, rfl, ?_⟩
          refine hK.out _ _ hHeld (fun hHeld => ?_)
          clear hK K
          refine norm_ (a' := ?_) ?_ ?_
          rotate_left
          · show Act.put _ (some 97) _ = _
            simp only [Act.put, List.setIfInBounds_toArray, List.set_cons_zero, List.set_cons_succ, i64_w, i32_w]
            rfl
          refine one_ (i := 22) (N := some 99) #[true, true, true, true, true, true, true, true, true, true, true, true, true, true, true, true, true, true, true, true, true, true, true, false, false, false, false, false, false, false] rfl rfl (by kernel_rfl) (by decide) (fun K hK => ?_)
          refine goes_ Tryz.func18 (by kernel_rfl) rfl #[.agg #[.slice (some ⟨wr.heap.size, 0, none⟩) 1 1, .slice none 0 0, .slice (some ⟨wr.heap.size + 1 + 1, 0, none⟩) 1 1, .slice none 0 0, .slice none 0 0, .slice none 0 0, .slice none 0 0, .slice none 0 0], .int .i64 1] (by rfl) rfl rfl (by first | rfl | (simp only [List.map_toArray, List.map_cons, List.map_nil]; rfl)) ?_
          refine (HMQ.out _ hHeld).mono ?_
          rintro e w4 ⟨rfl, hb⟩
          have HH4 := Lib.hid (below_then hHeld hHeld.size hb)
          clear hb
          refine ⟨_, rfl, ?_⟩
          refine hK.out _ _ HH4.out (fun hHeld => ?_)
          clear hK K
          refine norm_ (a' := ?_) ?_ ?_
          rotate_left
          · show Act.put _ (some 99) _ = _
            simp only [Act.put, List.setIfInBounds_toArray, List.set_cons_zero, List.set_cons_succ, i64_w, i32_w]
            rfl
          refine pure_ (i := 23) (N := some 100) (v := ?_) (a' := ?_) #[true, true, true, true, true, true, true, true, true, true, true, true, true, true, true, true, true, true, true, true, true, true, true, true, false, false, false, false, false, false] rfl rfl (by kernel_rfl) (fun _ _ _ h => h) (Or.inl ⟨by rfl, ?_⟩) ?_ ?_
          rotate_left
          · intro w'
            go_simp
            try with_reducible rfl
          rotate_left
          · simp only [Act.put, List.setIfInBounds_toArray, List.set_cons_zero, List.set_cons_succ, i64_w, i32_w]
            rfl
          refine pure_ (i := 24) (N := some 101) (v := ?_) (a' := ?_) #[true, true, true, true, true, true, true, true, true, true, true, true, true, true, true, true, true, true, true, true, true, true, true, true, true, false, false, false, false, false] rfl rfl (by kernel_rfl) (fun _ _ _ h => h) (Or.inl ⟨by rfl, ?_⟩) ?_ ?_
          rotate_left
          · intro w'
            go_simp
            try with_reducible rfl
          rotate_left
          · simp only [Act.put, List.setIfInBounds_toArray, List.set_cons_zero, List.set_cons_succ, i64_w, i32_w]
            rfl
          refine pure_ (i := 25) (N := some 102) (v := ?_) (a' := ?_) #[true, true, true, true, true, true, true, true, true, true, true, true, true, true, true, true, true, true, true, true, true, true, true, true, true, true, false, false, false, false] rfl rfl (by kernel_rfl) (fun _ _ _ h => h) (Or.inl ⟨by rfl, ?_⟩) ?_ ?_
          rotate_left
          · intro w'
            go_simp
            try with_reducible rfl
          rotate_left
          · simp only [Act.put, List.setIfInBounds_toArray, List.set_cons_zero, List.set_cons_succ, i64_w, i32_w]
            rfl
          refine pure_ (i := 26) (N := some 103) (v := ?_) (a' := ?_) #[true, true, true, true, true, true, true, true, true, true, true, true, true, true, true, true, true, true, true, true, true, true, true, true, true, true, true, false, false, false] rfl rfl (by kernel_rfl) (fun _ _ _ h => h) (Or.inl ⟨by rfl, ?_⟩) ?_ ?_
          rotate_left
          · intro w'
            go_simp
            try with_reducible rfl
          rotate_left
          · simp only [Act.put, List.setIfInBounds_toArray, List.set_cons_zero, List.set_cons_succ, i64_w, i32_w]
            rfl
          refine one_ (i := 27) (N := some 104) #[true, true, true, true, true, true, true, true, true, true, true, true, true, true, true, true, true, true, true, true, true, true, true, true, true, true, true, true, false, false] rfl rfl (by kernel_rfl) (by decide) (fun K hK => ?_)
          refine goes_ Tryz.func15 (by kernel_rfl) rfl #[] (by rfl) rfl rfl (by simp only [List.map_toArray, List.map_nil]) ?_
          refine (HKN.out _).mono ?_
          rintro e w5 ⟨rfl, hb⟩
          have HH5 := Lib.hid (below_then hHeld hHeld.size hb)
          clear hb
          refine ⟨_, rfl, ?_⟩
          refine hK.out _ _ HH5.out (fun hHeld => ?_)
          clear hK K
          refine norm_ (a' := ?_) ?_ ?_
          rotate_left
          · show Act.put _ (some 104) _ = _
            simp only [Act.put, List.setIfInBounds_toArray, List.set_cons_zero, List.set_cons_succ, i64_w, i32_w]
            rfl
          refine pure_ (i := 28) (N := some 105) (v := ?_) (a' := ?_) #[true, true, true, true, true, true, true, true, true, true, true, true, true, true, true, true, true, true, true, true, true, true, true, true, true, true, true, true, true, false] rfl rfl (by kernel_rfl) (fun _ _ _ h => h) (Or.inl ⟨by rfl, ?_⟩) ?_ ?_
          rotate_left
          · intro w'
            go_simp
            try with_reducible rfl
          rotate_left
          · simp only [Act.put, List.setIfInBounds_toArray, List.set_cons_zero, List.set_cons_succ, i64_w, i32_w]
            rfl
          refine pure_ (i := 29) (N := some 4) (v := ?_) (a' := ?_) #[true, true, true, true, true, true, true, true, true, true, true, true, true, true, true, true, true, true, true, true, true, true, true, true, true, true, true, true, true, true] rfl rfl (by kernel_rfl) (fun _ _ _ h => h) (Or.inl ⟨by rfl, ?_⟩) ?_ ?_
          rotate_left
          · intro w'
            go_simp
            try with_reducible rfl
          rotate_left
          · simp only [Act.put, List.setIfInBounds_toArray, List.set_cons_zero, List.set_cons_succ, i64_w, i32_w]
            rfl
          refine done_ (by kernel_rfl) ?_
          go_wp2_with fail
          go_ret
          exact ⟨rfl, below_then HBW.out HBW.out.size (below_then HB1.out HB1.out.size HH5.out)⟩
        | false =>
          have HF : Hid (Calls Tryz.prog 21 #[.agg #[.slice (some ⟨wr.heap.size + 1 + 1 + 1 + 1, 0, none⟩) 1 1, .slice none 0 0, .slice (some ⟨wr.heap.size + 1 + 1 + 1 + 1 + 1 + 1, 0, none⟩) 1 1, .slice none 0 0, .slice none 0 0, .slice none 0 0, .slice none 0 0, .slice none 0 0], .int .i64 0, .int .i64 1] W0 (FuncEnd (1, 14) W0)) := Lib.hid (by have := lit_Func (c := Dd.nM x) HN3.out (litCs (wr.heap.size + 1 + 1 + 1 + 1) (wr.heap.size + 1 + 1 + 1 + 1 + 1 + 1)) 1 (.inl rfl) W0 (lit_K (c := Dd.nM x) (B1 := wr.heap.size + 1 + 1 + 1 + 1 + 1) HX.out.2.2.2.2.1 HX.out.2.2.2.2.2.1 HX.out.2.2.2.2.2.2.1 HN4.out (by show (4 : Nat) ≤ _; omega)) HNR.out; rw [show Sp.runOf (litM (Dd.nM x)) (decide ((1 : Int) = 1)) 0 = (1, 14) from HE.out.2.2.2.2.2] at this; exact this)
          rw [HW0.out] at HF
          have HRI : Hid (∀ W, Calls Tryz.prog 20 #[.int .i64 x] W (fun e w' => e = .returned (.bool false) ∧ W = w')) := Lib.hid (fun W => by have := ref3_Rich x W; rw [HB0.out] at this; exact this)
          go_wp2_with (first | ((go_at_call 20); (with_reducible refine (HRI.out _).mono ?_); rintro e w' ⟨rfl, rfl⟩) | ((go_at_call 21); (with_reducible refine HF.out.mono ?_); rintro e w1 ⟨rfl, hb⟩; rw [← HW0.out] at hb; have HB1 := Lib.hid hb; clear hb))
          have hz1 := HB1.out.size
          have hz0 := HZ.out
          have y0 := (HB1.out.block (wr.heap.size) (by omega)).trans HX.out.1
          have y1 := (HB1.out.block (wr.heap.size + 1) (by omega)).trans HX.out.2.1
          have y2 := (HB1.out.block (wr.heap.size + 1 + 1) (by omega)).trans HX.out.2.2.1
          have y3 := (HB1.out.block (wr.heap.size + 1 + 1 + 1) (by omega)).trans HX.out.2.2.2.1
          have y4 := (HB1.out.block (wr.heap.size + 1 + 1 + 1 + 1) (by omega)).trans HX.out.2.2.2.2.1
          have y5 := (HB1.out.block (wr.heap.size + 1 + 1 + 1 + 1 + 1) (by omega)).trans HX.out.2.2.2.2.2.1
          have y6 := (HB1.out.block (wr.heap.size + 1 + 1 + 1 + 1 + 1 + 1) (by omega)).trans HX.out.2.2.2.2.2.2.1
          have y7 := (HB1.out.block (wr.heap.size + 1 + 1 + 1 + 1 + 1 + 1 + 1) (by omega)).trans HX.out.2.2.2.2.2.2.2
          have HMP : Hid (∀ W, Below w1.heap.size w1 W → Calls Tryz.prog 18 #[.agg #[.slice (some ⟨wr.heap.size, 0, none⟩) 1 1, .slice none 0 0, .slice (some ⟨wr.heap.size + 1 + 1, 0, none⟩) 1 1, .slice none 0 0, .slice none 0 0, .slice none 0 0, .slice none 0 0, .slice none 0 0], .int .i64 1] W (ErrEnd 0 W)) := Lib.hid (fun W hb => by have := lit_Module (c := Dd.mM x) HM3.out (litCs (wr.heap.size) (wr.heap.size + 1 + 1)) 1 W (lit_K (c := Dd.mM x) (B1 := wr.heap.size + 1) ((hb.block _ (blk_lt y0)).trans y0) ((hb.block _ (blk_lt y1)).trans y1) ((hb.block _ (blk_lt y2)).trans y2) HM4.out (by show (4 : Nat) ≤ _; omega)); rw [show Sp.moduleErr (litM (Dd.mM x)) 1 = 0 from HE.out.2.2.2.1] at this; exact this)
          have HNP : Hid (∀ W, Below w1.heap.size w1 W → Calls Tryz.prog 18 #[.agg #[.slice (some ⟨wr.heap.size + 1 + 1 + 1 + 1, 0, none⟩) 1 1, .slice none 0 0, .slice (some ⟨wr.heap.size + 1 + 1 + 1 + 1 + 1 + 1, 0, none⟩) 1 1, .slice none 0 0, .slice none 0 0, .slice none 0 0, .slice none 0 0, .slice none 0 0], .int .i64 1] W (ErrEnd 14 W)) := Lib.hid (fun W hb => by have := lit_Module (c := Dd.nM x) HN3.out (litCs (wr.heap.size + 1 + 1 + 1 + 1) (wr.heap.size + 1 + 1 + 1 + 1 + 1 + 1)) 1 W (lit_K (c := Dd.nM x) (B1 := wr.heap.size + 1 + 1 + 1 + 1 + 1) ((hb.block _ (blk_lt y4)).trans y4) ((hb.block _ (blk_lt y5)).trans y5) ((hb.block _ (blk_lt y6)).trans y6) HN4.out (by show (4 : Nat) ≤ _; omega)); rw [show Sp.moduleErr (litM (Dd.nM x)) 1 = 14 from HE.out.2.2.2.2.1] at this; exact this)
          have HMQ : Hid (∀ W, Below w1.heap.size w1 W → Calls Tryz.prog 18 #[.agg #[.slice (some ⟨wr.heap.size, 0, none⟩) 1 1, .slice none 0 0, .slice (some ⟨wr.heap.size + 1 + 1, 0, none⟩) 1 1, .slice none 0 0, .slice none 0 0, .slice none 0 0, .slice none 0 0, .slice none 0 0], .int .i64 1] W (ErrEnd 0 W)) := Lib.hid (fun W hb => by have := lit_Module (c := Dd.mM x) HM3.out (litCs (wr.heap.size) (wr.heap.size + 1 + 1)) 1 W (lit_K (c := Dd.mM x) (B1 := wr.heap.size + 1) ((hb.block _ (blk_lt y0)).trans y0) ((hb.block _ (blk_lt y1)).trans y1) ((hb.block _ (blk_lt y2)).trans y2) HM4.out (by show (4 : Nat) ≤ _; omega)); rw [show Sp.moduleErr (litM (Dd.mM x)) 1 = 0 from HE.out.2.2.2.1] at this; exact this)
          have HY3 := Lib.hid y3; have HY7 := Lib.hid y7
          have HBW := Lib.hid (below_then HB.out HB.out.size (HBA.out))
          clear hz0 hz1 y0 y1 y2 y3 y4 y5 y6 y7
          refine start_ (n := 30) (S := fun w' => Below w1.heap.size w1 w') (ds := []) #[false, false, false, false, false, false, false, false, false, false, false, false, false, false, false, false, false, false, false, false, false, false, false, false, false, false, false, false, false, false] (by kernel_rfl) rfl rfl (below_drew (Below.refl _ _)) (fun hHeld => ?_)
          refine take_ (i := 0) (N := some 77) (v := ?_) (a' := ?_) #[true, false, false, false, false, false, false, false, false, false, false, false, false, false, false, false, false, false, false, false, false, false, false, false, false, false, false, false, false, false] rfl rfl (by kernel_rfl) (fun _ _ _ h => h) (Or.inl ⟨by rfl, ?_⟩) hHeld ?_ ?_
          rotate_left
          · intro w' s0
            have y := (s0.block _ (blk_lt HY3.out)).trans HY3.out
            have q0 := (blk_cell y 0).trans rfl
            have q1 := (blk_cell y 1).trans rfl
            have q2 := (blk_cell y 2).trans rfl
            have q3 := (blk_cell y 3).trans rfl
            have q4 := (blk_cell y 4).trans rfl
            have q5 := (blk_cell y 5).trans rfl
            have q6 := (blk_cell y 6).trans rfl
            have q7 := (blk_cell y 7).trans rfl
            clear y
            go_simp
            try with_reducible rfl
          rotate_left
          · simp only [Act.put, List.setIfInBounds_toArray, List.set_cons_zero, List.set_cons_succ, i64_w, i32_w]
            rfl
          refine pure_ (i := 1) (N := some 78) (v := ?_) (a' := ?_) #[true, true, false, false, false, false, false, false, false, false, false, false, false, false, false, false, false, false, false, false, false, false, false, false, false, false, false, false, false, false] rfl rfl (by kernel_rfl) (fun _ _ _ h => h) (Or.inl ⟨by rfl, ?_⟩) ?_ ?_
          rotate_left
          · intro w'
            go_simp
            try with_reducible rfl
          rotate_left
          · simp only [Act.put, List.setIfInBounds_toArray, List.set_cons_zero, List.set_cons_succ, i64_w, i32_w]
            rfl
          refine one_ (i := 2) (N := some 79) #[true, true, true, false, false, false, false, false, false, false, false, false, false, false, false, false, false, false, false, false, false, false, false, false, false, false, false, false, false, false] rfl rfl (by kernel_rfl) (by decide) (fun K hK => ?_)
          refine goes_ Tryz.func18 (by kernel_rfl) rfl #[.agg #[.slice (some ⟨wr.heap.size, 0, none⟩) 1 1, .slice none 0 0, .slice (some ⟨wr.heap.size + 1 + 1, 0, none⟩) 1 1, .slice none 0 0, .slice none 0 0, .slice none 0 0, .slice none 0 0, .slice none 0 0], .int .i64 1] (by rfl) rfl rfl (by first | rfl | (simp only [List.map_toArray, List.map_cons, List.map_nil]; rfl)) ?_
          refine (HMP.out _ hHeld).mono ?_
          rintro e w2 ⟨rfl, hb⟩
          have HH2 := Lib.hid (below_then hHeld hHeld.size hb)
          clear hb
          refine ⟨_, rfl, ?_⟩
          refine hK.out _ _ HH2.out (fun hHeld => ?_)
          clear hK K
          refine norm_ (a' := ?_) ?_ ?_
          rotate_left
          · show Act.put _ (some 79) _ = _
            simp only [Act.put, List.setIfInBounds_toArray, List.set_cons_zero, List.set_cons_succ, i64_w, i32_w]
            rfl
          refine pure_ (i := 3) (N := some 80) (v := ?_) (a' := ?_) #[true, true, true, true, false, false, false, false, false, false, false, false, false, false, false, false, false, false, false, false, false, false, false, false, false, false, false, false, false, false] rfl rfl (by kernel_rfl) (fun _ _ _ h => h) (Or.inl ⟨by rfl, ?_⟩) ?_ ?_
          rotate_left
          · intro w'
            go_simp
            try with_reducible rfl
          rotate_left
          · simp only [Act.put, List.setIfInBounds_toArray, List.set_cons_zero, List.set_cons_succ, i64_w, i32_w]
            rfl
          refine pure_ (i := 4) (N := some 81) (v := ?_) (a' := ?_) #[true, true, true, true, true, false, false, false, false, false, false, false, false, false, false, false, false, false, false, false, false, false, false, false, false, false, false, false, false, false] rfl rfl (by kernel_rfl) (fun _ _ _ h => h) (Or.inl ⟨by rfl, ?_⟩) ?_ ?_
          rotate_left
          · intro w'
            go_simp
            try with_reducible rfl
          rotate_left
          · simp only [Act.put, List.setIfInBounds_toArray, List.set_cons_zero, List.set_cons_succ, i64_w, i32_w]
            rfl
          refine take_ (i := 5) (N := some 82) (v := ?_) (a' := ?_) #[true, true, true, true, true, true, false, false, false, false, false, false, false, false, false, false, false, false, false, false, false, false, false, false, false, false, false, false, false, false] rfl rfl (by kernel_rfl) (fun _ _ _ h => h) (Or.inl ⟨by rfl, ?_⟩) hHeld ?_ ?_
          rotate_left
          · intro w' s0
            have y := (s0.block _ (blk_lt HY7.out)).trans HY7.out
            have q0 := (blk_cell y 0).trans rfl
            have q1 := (blk_cell y 1).trans rfl
            have q2 := (blk_cell y 2).trans rfl
            have q3 := (blk_cell y 3).trans rfl
            have q4 := (blk_cell y 4).trans rfl
            have q5 := (blk_cell y 5).trans rfl
            have q6 := (blk_cell y 6).trans rfl
            have q7 := (blk_cell y 7).trans rfl
            clear y
            go_simp
            try with_reducible rfl
          rotate_left
          · simp only [Act.put, List.setIfInBounds_toArray, List.set_cons_zero, List.set_cons_succ, i64_w, i32_w]
            rfl
          refine pure_ (i := 6) (N := some 83) (v := ?_) (a' := ?_) #[true, true, true, true, true, true, true, false, false, false, false, false, false, false, false, false, false, false, false, false, false, false, false, false, false, false, false, false, false, false] rfl rfl (by kernel_rfl) (fun _ _ _ h => h) (Or.inl ⟨by rfl, ?_⟩) ?_ ?_
          rotate_left
          · intro w'
            go_simp
            try with_reducible rfl
          rotate_left
          · simp only [Act.put, List.setIfInBounds_toArray, List.set_cons_zero, List.set_cons_succ, i64_w, i32_w]
            rfl
          refine one_ (i := 7) (N := some 84) #[true, true, true, true, true, true, true, true, false, false, false, false, false, false, false, false, false, false, false, false, false, false, false, false, false, false, false, false, false, false] rfl rfl (by kernel_rfl) (by decide) (fun K hK => ?_)
          refine goes_ Tryz.func18 (by kernel_rfl) rfl #[.agg #[.slice (some ⟨wr.heap.size + 1 + 1 + 1 + 1, 0, none⟩) 1 1, .slice none 0 0, .slice (some ⟨wr.heap.size + 1 + 1 + 1 + 1 + 1 + 1, 0, none⟩) 1 1, .slice none 0 0, .slice none 0 0, .slice none 0 0, .slice none 0 0, .slice none 0 0], .int .i64 1] (by rfl) rfl rfl (by first | rfl | (simp only [List.map_toArray, List.map_cons, List.map_nil]; rfl)) ?_
          refine (HNP.out _ hHeld).mono ?_
          rintro e w3 ⟨rfl, hb⟩
          have HH3 := Lib.hid (below_then hHeld hHeld.size hb)
          clear hb
          refine ⟨_, rfl, ?_⟩
          refine hK.out _ _ HH3.out (fun hHeld => ?_)
          clear hK K
          refine norm_ (a' := ?_) ?_ ?_
          rotate_left
          · show Act.put _ (some 84) _ = _
            simp only [Act.put, List.setIfInBounds_toArray, List.set_cons_zero, List.set_cons_succ, i64_w, i32_w]
            rfl
          refine pure_ (i := 8) (N := some 85) (v := ?_) (a' := ?_) #[true, true, true, true, true, true, true, true, true, false, false, false, false, false, false, false, false, false, false, false, false, false, false, false, false, false, false, false, false, false] rfl rfl (by kernel_rfl) (fun _ _ _ h => h) (Or.inl ⟨by rfl, ?_⟩) ?_ ?_
          rotate_left
          · intro w'
            go_simp
            try with_reducible rfl
          rotate_left
          · simp only [Act.put, List.setIfInBounds_toArray, List.set_cons_zero, List.set_cons_succ, i64_w, i32_w]
            rfl
          refine pure_ (i := 9) (N := some 86) (v := ?_) (a' := ?_) #[true, true, true, true, true, true, true, true, true, true, false, false, false, false, false, false, false, false, false, false, false, false, false, false, false, false, false, false, false, false] rfl rfl (by kernel_rfl) (fun _ _ _ h => h) (Or.inl ⟨by rfl, ?_⟩) ?_ ?_
          rotate_left
          · intro w'
            go_simp
            try with_reducible rfl
          rotate_left
          · simp only [Act.put, List.setIfInBounds_toArray, List.set_cons_zero, List.set_cons_succ, i64_w, i32_w]
            rfl
          refine pure_ (i := 10) (N := some 87) (v := ?_) (a' := ?_) #[true, true, true, true, true, true, true, true, true, true, true, false, false, false, false, false, false, false, false, false, false, false, false, false, false, false, false, false, false, false] rfl rfl (by kernel_rfl) (fun _ _ _ h => h) (Or.inl ⟨by rfl, ?_⟩) ?_ ?_
          rotate_left
          · intro w'
            go_simp
            try with_reducible rfl
          rotate_left
          · simp only [Act.put, List.setIfInBounds_toArray, List.set_cons_zero, List.set_cons_succ, i64_w, i32_w]
            rfl
          refine pure_ (i := 11) (N := some 88) (v := ?_) (a' := ?_) #[true, true, true, true, true, true, true, true, true, true, true, true, false, false, false, false, false, false, false, false, false, false, false, false, false, false, false, false, false, false] rfl rfl (by kernel_rfl) (fun _ _ _ h => h) (Or.inl ⟨by rfl, ?_⟩) ?_ ?_
          rotate_left
          · intro w'
            go_simp
            try with_reducible rfl
          rotate_left
          · simp only [Act.put, List.setIfInBounds_toArray, List.set_cons_zero, List.set_cons_succ, i64_w, i32_w]
            rfl
          refine pure_ (i := 12) (N := some 89) (v := ?_) (a' := ?_) #[true, true, true, true, true, true, true, true, true, true, true, true, true, false, false, false, false, false, false, false, false, false, false, false, false, false, false, false, false, false] rfl rfl (by kernel_rfl) (fun _ _ _ h => h) (Or.inl ⟨by rfl, ?_⟩) ?_ ?_
          rotate_left
          · intro w'
            go_simp
            try with_reducible rfl
          rotate_left
          · simp only [Act.put, List.setIfInBounds_toArray, List.set_cons_zero, List.set_cons_succ, i64_w, i32_w]
            rfl
          refine pure_ (i := 13) (N := some 90) (v := ?_) (a' := ?_) #[true, true, true, true, true, true, true, true, true, true, true, true, true, true, false, false, false, false, false, false, false, false, false, false, false, false, false, false, false, false] rfl rfl (by kernel_rfl) (fun _ _ _ h => h) (Or.inl ⟨by rfl, ?_⟩) ?_ ?_
          rotate_left
          · intro w'
            go_simp
            try with_reducible rfl
          rotate_left
          · simp only [Act.put, List.setIfInBounds_toArray, List.set_cons_zero, List.set_cons_succ, i64_w, i32_w]
            rfl
          refine pure_ (i := 14) (N := some 91) (v := ?_) (a' := ?_) #[true, true, true, true, true, true, true, true, true, true, true, true, true, true, true, false, false, false, false, false, false, false, false, false, false, false, false, false, false, false] rfl rfl (by kernel_rfl) (fun _ _ _ h => h) (Or.inl ⟨by rfl, ?_⟩) ?_ ?_
          rotate_left
          · intro w'
            go_simp
            try with_reducible rfl
          rotate_left
          · simp only [Act.put, List.setIfInBounds_toArray, List.set_cons_zero, List.set_cons_succ, i64_w, i32_w]
            rfl
          refine pure_ (i := 15) (N := some 92) (v := ?_) (a' := ?_) #[true, true, true, true, true, true, true, true, true, true, true, true, true, true, true, true, false, false, false, false, false, false, false, false, false, false, false, false, false, false] rfl rfl (by kernel_rfl) (fun _ _ _ h => h) (Or.inl ⟨by rfl, ?_⟩) ?_ ?_
          rotate_left
          · intro w'
            go_simp
            try with_reducible rfl
          rotate_left
          · simp only [Act.put, List.setIfInBounds_toArray, List.set_cons_zero, List.set_cons_succ, i64_w, i32_w]
            rfl
          refine pure_ (i := 16) (N := some 93) (v := ?_) (a' := ?_) #[true, true, true, true, true, true, true, true, true, true, true, true, true, true, true, true, true, false, false, false, false, false, false, false, false, false, false, false, false, false] rfl rfl (by kernel_rfl) (fun _ _ _ h => h) (Or.inl ⟨by rfl, ?_⟩) ?_ ?_
          rotate_left
          · intro w'
            go_simp
            try with_reducible rfl
          rotate_left
          · simp only [Act.put, List.setIfInBounds_toArray, List.set_cons_zero, List.set_cons_succ, i64_w, i32_w]
            rfl
          refine pure_ (i := 17) (N := some 94) (v := ?_) (a' := ?_) #[true, true, true, true, true, true, true, true, true, true, true, true, true, true, true, true, true, true, false, false, false, false, false, false, false, false, false, false, false, false] rfl rfl (by kernel_rfl) (fun _ _ _ h => h) (Or.inl ⟨by rfl, ?_⟩) ?_ ?_
          rotate_left
          · intro w'
            go_simp
            try with_reducible rfl
          rotate_left
          · simp only [Act.put, List.setIfInBounds_toArray, List.set_cons_zero, List.set_cons_succ, i64_w, i32_w]
            rfl
          refine pure_ (i := 18) (N := some 95) (v := ?_) (a' := ?_) #[true, true, true, true, true, true, true, true, true, true, true, true, true, true, true, true, true, true, true, false, false, false, false, false, false, false, false, false, false, false] rfl rfl (by kernel_rfl) (fun _ _ _ h => h) (Or.inl ⟨by rfl, ?_⟩) ?_ ?_
          rotate_left
          · intro w'
            go_simp
            try with_reducible rfl
          rotate_left
          · simp only [Act.put, List.setIfInBounds_toArray, List.set_cons_zero, List.set_cons_succ, i64_w, i32_w]
            rfl
          refine pure_ (i := 19) (N := some 96) (v := ?_) (a' := ?_) #[true, true, true, true, true, true, true, true, true, true, true, true, true, true, true, true, true, true, true, true, false, false, false, false, false, false, false, false, false, false] rfl rfl (by kernel_rfl) (fun _ _ _ h => h) (Or.inl ⟨by rfl, ?_⟩) ?_ ?_
          rotate_left
          · intro w'
            go_simp
            try with_reducible rfl
          rotate_left
          · simp only [Act.put, List.setIfInBounds_toArray, List.set_cons_zero, List.set_cons_succ, i64_w, i32_w]
            rfl
          refine take_ (i := 21) (N := some 98) (v := ?_) (a' := ?_) #[true, true, true, true, true, true, true, true, true, true, true, true, true, true, true, true, true, true, true, true, false, true, false, false, false, false, false, false, false, false] rfl rfl (by kernel_rfl) (fun _ _ _ h => h) (Or.inl ⟨by rfl, ?_⟩) hHeld ?_ ?_
          rotate_left
          · intro w' s0
            have y := (s0.block _ (blk_lt HY3.out)).trans HY3.out
            have q0 := (blk_cell y 0).trans rfl
            have q1 := (blk_cell y 1).trans rfl
            have q2 := (blk_cell y 2).trans rfl
            have q3 := (blk_cell y 3).trans rfl
            have q4 := (blk_cell y 4).trans rfl
            have q5 := (blk_cell y 5).trans rfl
            have q6 := (blk_cell y 6).trans rfl
            have q7 := (blk_cell y 7).trans rfl
            clear y
            go_simp
            try with_reducible rfl
          rotate_left
          · simp only [Act.put, List.setIfInBounds_toArray, List.set_cons_zero, List.set_cons_succ, i64_w, i32_w]
            rfl
          refine one_ (i := 20) (N := some 97) #[true, true, true, true, true, true, true, true, true, true, true, true, true, true, true, true, true, true, true, true, true, true, false, false, false, false, false, false, false, false] rfl rfl (by kernel_rfl) (by decide) (fun K hK => ?_)
          refine goes_ Tryz.func20 (by kernel_rfl) rfl #[.int .i64 x] (by rfl) rfl rfl (by first | rfl | (simp only [List.map_toArray, List.map_cons, List.map_nil]; rfl)) ?_
          refine (HRI.out _).mono ?_
          rintro e w' ⟨rfl, rfl⟩
          refine ⟨_, rfl, ?_⟩
          refine hK.out _ _ hHeld (fun hHeld => ?_)
          clear hK K
          refine norm_ (a' := ?_) ?_ ?_
          rotate_left
          · show Act.put _ (some 97) _ = _
            simp only [Act.put, List.setIfInBounds_toArray, List.set_cons_zero, List.set_cons_succ, i64_w, i32_w]
            rfl
          refine one_ (i := 22) (N := some 99) #[true, true, true, true, true, true, true, true, true, true, true, true, true, true, true, true, true, true, true, true, true, true, true, false, false, false, false, false, false, false] rfl rfl (by kernel_rfl) (by decide) (fun K hK => ?_)
          refine goes_ Tryz.func18 (by kernel_rfl) rfl #[.agg #[.slice (some ⟨wr.heap.size, 0, none⟩) 1 1, .slice none 0 0, .slice (some ⟨wr.heap.size + 1 + 1, 0, none⟩) 1 1, .slice none 0 0, .slice none 0 0, .slice none 0 0, .slice none 0 0, .slice none 0 0], .int .i64 1] (by rfl) rfl rfl (by first | rfl | (simp only [List.map_toArray, List.map_cons, List.map_nil]; rfl)) ?_
          refine (HMQ.out _ hHeld).mono ?_
          rintro e w4 ⟨rfl, hb⟩
          have HH4 := Lib.hid (below_then hHeld hHeld.size hb)
          clear hb
          refine ⟨_, rfl, ?_⟩
          refine hK.out _ _ HH4.out (fun hHeld => ?_)
          clear hK K
          refine norm_ (a' := ?_) ?_ ?_
          rotate_left
          · show Act.put _ (some 99) _ = _
            simp only [Act.put, List.setIfInBounds_toArray, List.set_cons_zero, List.set_cons_succ, i64_w, i32_w]
            rfl
          refine pure_ (i := 23) (N := some 100) (v := ?_) (a' := ?_) #[true, true, true, true, true, true, true, true, true, true, true, true, true, true, true, true, true, true, true, true, true, true, true, true, false, false, false, false, false, false] rfl rfl (by kernel_rfl) (fun _ _ _ h => h) (Or.inl ⟨by rfl, ?_⟩) ?_ ?_
          rotate_left
          · intro w'
            go_simp
            try with_reducible rfl
          rotate_left
          · simp only [Act.put, List.setIfInBounds_toArray, List.set_cons_zero, List.set_cons_succ, i64_w, i32_w]
            rfl
          refine pure_ (i := 24) (N := some 101) (v := ?_) (a' := ?_) #[true, true, true, true, true, true, true, true, true, true, true, true, true, true, true, true, true, true, true, true, true, true, true, true, true, false, false, false, false, false] rfl rfl (by kernel_rfl) (fun _ _ _ h => h) (Or.inl ⟨by rfl, ?_⟩) ?_ ?_
          rotate_left
          · intro w'
            go_simp
            try with_reducible rfl
          rotate_left
          · simp only [Act.put, List.setIfInBounds_toArray, List.set_cons_zero, List.set_cons_succ, i64_w, i32_w]
            rfl
          refine pure_ (i := 25) (N := some 102) (v := ?_) (a' := ?_) #[true, true, true, true, true, true, true, true, true, true, true, true, true, true, true, true, true, true, true, true, true, true, true, true, true, true, false, false, false, false] rfl rfl (by kernel_rfl) (fun _ _ _ h => h) (Or.inl ⟨by rfl, ?_⟩) ?_ ?_
          rotate_left
          · intro w'
            go_simp
            try with_reducible rfl
          rotate_left
          · simp only [Act.put, List.setIfInBounds_toArray, List.set_cons_zero, List.set_cons_succ, i64_w, i32_w]
            rfl
          refine pure_ (i := 26) (N := some 103) (v := ?_) (a' := ?_) #[true, true, true, true, true, true, true, true, true, true, true, true, true, true, true, true, true, true, true, true, true, true, true, true, true, true, true, false, false, false] rfl rfl (by kernel_rfl) (fun _ _ _ h => h) (Or.inl ⟨by rfl, ?_⟩) ?_ ?_
          rotate_left
          · intro w'
            go_simp
            try with_reducible rfl
          rotate_left
          · simp only [Act.put, List.setIfInBounds_toArray, List.set_cons_zero, List.set_cons_succ, i64_w, i32_w]
            rfl
          refine one_ (i := 27) (N := some 104) #[true, true, true, true, true, true, true, true, true, true, true, true, true, true, true, true, true, true, true, true, true, true, true, true, true, true, true, true, false, false] rfl rfl (by kernel_rfl) (by decide) (fun K hK => ?_)
          refine goes_ Tryz.func15 (by kernel_rfl) rfl #[] (by rfl) rfl rfl (by simp only [List.map_toArray, List.map_nil]) ?_
          refine (HKN.out _).mono ?_
          rintro e w5 ⟨rfl, hb⟩
          have HH5 := Lib.hid (below_then hHeld hHeld.size hb)
          clear hb
          refine ⟨_, rfl, ?_⟩
          refine hK.out _ _ HH5.out (fun hHeld => ?_)
          clear hK K
          refine norm_ (a' := ?_) ?_ ?_
          rotate_left
          · show Act.put _ (some 104) _ = _
            simp only [Act.put, List.setIfInBounds_toArray, List.set_cons_zero, List.set_cons_succ, i64_w, i32_w]
            rfl
          refine pure_ (i := 28) (N := some 105) (v := ?_) (a' := ?_) #[true, true, true, true, true, true, true, true, true, true, true, true, true, true, true, true, true, true, true, true, true, true, true, true, true, true, true, true, true, false] rfl rfl (by kernel_rfl) (fun _ _ _ h => h) (Or.inl ⟨by rfl, ?_⟩) ?_ ?_
          rotate_left
          · intro w'
            go_simp
            try with_reducible rfl
          rotate_left
          · simp only [Act.put, List.setIfInBounds_toArray, List.set_cons_zero, List.set_cons_succ, i64_w, i32_w]
            rfl
          refine pure_ (i := 29) (N := some 4) (v := ?_) (a' := ?_) #[true, true, true, true, true, true, true, true, true, true, true, true, true, true, true, true, true, true, true, true, true, true, true, true, true, true, true, true, true, true] rfl rfl (by kernel_rfl) (fun _ _ _ h => h) (Or.inl ⟨by rfl, ?_⟩) ?_ ?_
          rotate_left
          · intro w'
            go_simp
            try with_reducible rfl
          rotate_left
          · simp only [Act.put, List.setIfInBounds_toArray, List.set_cons_zero, List.set_cons_succ, i64_w, i32_w]
            rfl
          refine done_ (by kernel_rfl) ?_
          go_wp2_with fail
          go_ret
          exact ⟨rfl, below_then HBW.out HBW.out.size (below_then HB1.out HB1.out.size HH5.out)⟩
end Go.Proofs.YthehihjcpiadgaaGreat
end
section
namespace Go.Proofs.YthehihjcpiadgaaGreat
open Go.RowKit Go.WideShapes Go.ChangeShapes
theorem wf_lo {a : Int} (h : (Lit.int .i64 a).wf = true) : -9223372036854775808 ≤ a := by
  simp [Lit.wf, IntKind.min, IntKind.max, IntKind.signed, IntKind.bits] at h
  omega
theorem wf_hi {a : Int} (h : (Lit.int .i64 a).wf = true) : a ≤ 9223372036854775807 := by
  simp [Lit.wf, IntKind.min, IntKind.max, IntKind.signed, IntKind.bits] at h
  omega
section
variable {H : Type} {enc : TypeId × Value → H} {P : Program}
theorem post_of_below {f : Func} {s : ChangeSpec} {apart fresh handsOn again : Bool} {W W' : World} {args : Array Value} {v : Value} {ds gs : List (DataW H)} {before pa pv : List MemPlace}
    (hW : DataW.Whole enc P f.params.toList s.vars apart W args.toList ds gs before)
    (hres : ∀ (b : Nat) (sp : Nat → Bool) (hd : Bool), DataW.TrodAll enc P W' b sp hd f.resultTypes.toList (v.resultList f.resultTypes.size) (s.fn H (ds ++ gs)).results [])
    (hargs : ∀ sp : Nat → Bool, (∀ p ∈ before, sp p.block = true) → DataW.TrodAll enc P W' 0 sp true f.params.toList args.toList (s.fn H (ds ++ gs)).args pa)
    (hvars : ∀ sp : Nat → Bool, (∀ p ∈ before, sp p.block = true) → DataW.TrodVars enc P W' sp s.vars (s.fn H (ds ++ gs)).vars pv)
    (hps : before = pa ++ pv) (hb : Below W.heap.size W W')
    (hok : ∀ (j : Nat) (t : TypeId) (r : Value), f.resultTypes[j]? = some t → (v.resultList f.resultTypes.size)[j]? = some r → Value.okWide P W' .any 0 t r) :
    s.post enc P f apart fresh handsOn again W args v W' := by
  have hlt : ∀ p ∈ before, p.block < W.heap.size := fun p hp => hW.lt p hp
  have hold : ∀ p ∈ before, (fun b => decide (b < W.heap.size)) p.block = true := fun p hp => by simpa using hlt p hp
  refine ⟨ds, gs, before, [], pa, pv, hW, hres _ _ _, hargs _ hold, hvars _ hold, World.keptBut_mono (fun p hp => ⟨hp, ?_⟩) (hb.frame (· ∈ before)), fun _ => ?_⟩
  · rw [hps, List.mem_append] at hp
    exact Or.inr hp
  · obtain ⟨_, _, _, _, _, hz, hn⟩ := hW
    refine ⟨hok, _, _, ([] ++ pa) ++ pv, ⟨[] ++ pa, pv, trodAll_append (hargs _ (fun _ _ => rfl)) (hres _ _ _), hvars _ (fun _ _ => rfl), rfl, ?_, ?_⟩, ?_⟩
    · intro b off hp
      have hin : MemPlace.cell b off ∈ before := by rw [hps]; simpa using hp
      rw [hb.frozen (hlt _ hin)]
      exact hz b off hin
    · intro ha
      have := hn ha
      rw [hps] at this
      simpa using this
    · intro p hp _
      rw [hps]
      simpa using hp
end
end Go.Proofs.YthehihjcpiadgaaGreat
end
