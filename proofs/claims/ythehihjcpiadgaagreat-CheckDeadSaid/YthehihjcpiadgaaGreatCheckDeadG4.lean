/- Lemmas for the row of CheckDead, part 4: what its functions do. -/
import Derived.Test.YthehihjcpiadgaaGreatCheckDeadG3
section
namespace Go.Proofs.YthehihjcpiadgaaGreat
open Go.RowKit Go.Proofs.YthehihjcpiadgaaGreatW.PrintWords Go.Proofs.YthehihjcpiadgaaGreatW.PrintLast
set_option linter.unusedSimpArgs false
set_option linter.unusedVariables false
theorem below_mv {w w' : World} {base g : Nat} {D : Nat → Prop} {fx : List Value} {s : Sp.St} {vT vF vT' vF' : Value} (h : StkAt w base g D fx s vT vF) (m : Mv g w w' vT vF vT' vF') (hb : base ≤ w.heap.size) : Below base w w' :=
  ⟨m.os, m.tape, m.output, m.size, fun k hk => m.block k (by omega) (by have := h.2.2.1; omega) (fun e => by have := Kd.R_base h.2.2.2.2.1 k e.symm; omega) (fun e => by have := Kd.R_base h.2.2.2.2.2.1 k e.symm; omega)⟩
theorem base_le {w : World} {base : Nat} {E : Sp.Env} {cs : List Value} {vL v1 v2 : Value} (h : EnvAt w base E cs vL v1 v2) : base ≤ w.heap.size := by
  obtain ⟨w0, rfl, -, hb, -⟩ := h
  exact hb.size
theorem env_mv {w w' : World} {base g : Nat} {E : Sp.Env} {cs fx : List Value} {vL v1 v2 : Value} {s : Sp.St} {vT vF vT' vF' : Value} (h : StkAt w base g (RowsD vL v1 v2) fx s vT vF) (m : Mv g w w' vT vF vT' vF') (hE : EnvAt w base E cs vL v1 v2) : EnvAt w' base E cs vL v1 v2 := by
  have hk : KeepD (RowsD vL v1 v2) w w' := m.keepD h.2.2.2.1 (fun k e hd => ((h.2.2.2.2.1).1 k e).2.2 hd) (fun k e hd => h.2.2.2.2.2.2.1 k e hd) h.2.2.2.2.2.2.2
  have hb := below_mv h m (base_le hE)
  obtain ⟨w0, rfl, hM, hb0, r1, r2, r3⟩ := hE
  exact ⟨w0, rfl, hM, ⟨hb.os.trans hb0.os, hb.tape.trans hb0.tape, hb.output.trans hb0.output, Nat.le_trans hb0.size hb.size, fun k hk => (hb.block k hk).trans (hb0.block k hk)⟩, Kd.R_move r1 hk.block, Kd.R_move r2 hk.block, Kd.R_move r3 hk.block⟩
theorem env_below {w w' : World} {base : Nat} {E : Sp.Env} {cs : List Value} {vL v1 v2 : Value} (hE : EnvAt w base E cs vL v1 v2) (hb : Below w.heap.size w w') : EnvAt w' base E cs vL v1 v2 := by
  obtain ⟨w0, rfl, hM, hb0, r1, r2, r3⟩ := hE
  exact ⟨w0, rfl, hM, below_then hb0 hb0.size hb, Kd.R_below r1 hb, Kd.R_below r2 hb, Kd.R_below r3 hb⟩
theorem env_K {w : World} {base : Nat} {E : Sp.Env} {cs : List Value} {vL v1 v2 : Value} (hE : EnvAt w base E cs vL v1 v2) : kMod.K w E.M cs := by
  obtain ⟨w0, rfl, hM, hb0, -⟩ := hE
  exact Kd.K_below kMod hb0 hM
set_option maxRecDepth 100000 in
set_option maxHeartbeats 4000000 in
theorem known_else (w : World) (base g : Nat) (E : Sp.Env) (cs : List Value) (vL v1 v2 : Value) (s : Sp.St) (vT vF : Value) (h : StkAt w base g (RowsD vL v1 v2) (cs ++ [vL, v1, v2]) s vT vF) (hE : EnvAt w base E cs vL v1 v2) (hI : Sp.SInv s) (a b n : Int) (A : Option Addr) (l c : Nat) (op : Int) (hA : Sp.accB op = false) (hO : Sp.opens op = false) (b12 : (op == 12) = false) (b13 : (op == 13) = false) (b14 : (op == 14) = false) (b16 : (op == 16) = false) (b18 : (op == 18) = false) (b32 : (op == 32) = false) (b33 : (op == 33) = false) (b34 : (op == 34) = false) (b35 : (op == 35) = false) (b36 : (op == 36) = false) (b63 : (op == 63) = false) (b64 : (op == 64) = false) (b64523 : (op == 64523) = false) (b64520 : (op == 64520) = false) (b64521 : (op == 64521) = false) (b64522 : (op == 64522) = false) : Calls Tryz.prog 46 #[.pointer (some ⟨g, 0, none⟩), instV op a b n (.slice A l c)] w (BoolEnd (true) w) := by
  have hK := env_K hE
  obtain ⟨A0, c0, A1, c1, A2, c2, A3, c3, A4, c4, A5, c5, A6, c6, A7, c7, rfl, -⟩ := kMod_open hK
  have hL := hE.choose_spec.2.2.2.1
  obtain ⟨PL, kL, rfl⟩ := Kd.R_slice hL
  obtain ⟨PF, kF, rfl⟩ := Kd.R_slice h.2.2.2.2.2.1
  obtain ⟨glt, -, -⟩ := stk_lt h
  have y0 : w.cell? ⟨g, 0, none⟩ = some (.slice A0 E.M.f0.length c0) := (blk_cell h.1 0).trans rfl
  have y1 : w.cell? ⟨g, 1, none⟩ = some (.slice A1 E.M.f1.length c1) := (blk_cell h.1 1).trans rfl
  have y2 : w.cell? ⟨g, 2, none⟩ = some (.slice A2 E.M.f2.length c2) := (blk_cell h.1 2).trans rfl
  have y3 : w.cell? ⟨g, 3, none⟩ = some (.slice A3 E.M.f3.length c3) := (blk_cell h.1 3).trans rfl
  have y4 : w.cell? ⟨g, 4, none⟩ = some (.slice A4 E.M.f4.length c4) := (blk_cell h.1 4).trans rfl
  have y5 : w.cell? ⟨g, 5, none⟩ = some (.slice A5 E.M.f5.length c5) := (blk_cell h.1 5).trans rfl
  have y6 : w.cell? ⟨g, 6, none⟩ = some (.slice A6 E.M.f6.length c6) := (blk_cell h.1 6).trans rfl
  have y7 : w.cell? ⟨g, 7, none⟩ = some (.slice A7 E.M.f7.length c7) := (blk_cell h.1 7).trans rfl
  have y8 : w.cell? ⟨g, 8, none⟩ = some (.slice PL E.L.length kL) := (blk_cell h.1 8).trans rfl
  have y12 := (blk_cell h.1 12).trans (stk_12 h.2.1 _ _ _)
  have HA : Hid (∀ w, Calls Tryz.prog 88 #[.int .i64 op] w (fun e w' => e = .returned (.tuple #[.int .i64 (Sp.accN op), .int .i64 (Sp.accT0 op), .bool (Sp.accS op), .bool false]) ∧ w = w')) := Lib.hid (fun w => by have := ops_Access op w; rw [hA] at this; exact this)
  have HO : Hid (∀ w, Calls Tryz.prog 87 #[.int .i64 op] w (fun e w' => e = .returned (.bool false) ∧ w = w')) := Lib.hid (fun w => by have := ops_Opens op w; rw [hO] at this; exact this)
  have HK := Lib.hid hK
  clear h hE hI hK hL hA hO
  go_enter Tryz.func46, Tryz.ntmps46
  go_wp2_with (first | ((go_at_call 88); (with_reducible refine (HA.out _).mono ?_); rintro e w' ⟨rfl, rfl⟩) | ((go_at_call 87); (with_reducible refine (HO.out _).mono ?_); rintro e w' ⟨rfl, rfl⟩) | ((go_at_call 43); (refine (check_there _ _ _).mono ?_); rintro e w' ⟨rfl, rfl⟩))
  go_ret
  exact ⟨rfl, (by repeat (first | exact Below.refl _ _ | exact HBS.out | refine below_alloc ?_ _ | refine below_drewN ?_ _))⟩
set_option maxRecDepth 100000 in
set_option maxHeartbeats 4000000 in
theorem known_acc (w : World) (base g : Nat) (E : Sp.Env) (cs : List Value) (vL v1 v2 : Value) (s : Sp.St) (vT vF : Value) (h : StkAt w base g (RowsD vL v1 v2) (cs ++ [vL, v1, v2]) s vT vF) (hE : EnvAt w base E cs vL v1 v2) (hI : Sp.SInv s) (a b n : Int) (A : Option Addr) (l c : Nat) (op : Int) (hA : Sp.accB op = true) (hO : Sp.opens op = false)  : Calls Tryz.prog 46 #[.pointer (some ⟨g, 0, none⟩), instV op a b n (.slice A l c)] w (BoolEnd (Sp.within a 0 ((E.M.f3.length : Int) - 1)) w) := by
  have hK := env_K hE
  obtain ⟨A0, c0, A1, c1, A2, c2, A3, c3, A4, c4, A5, c5, A6, c6, A7, c7, rfl, -⟩ := kMod_open hK
  have hL := hE.choose_spec.2.2.2.1
  obtain ⟨PL, kL, rfl⟩ := Kd.R_slice hL
  obtain ⟨PF, kF, rfl⟩ := Kd.R_slice h.2.2.2.2.2.1
  obtain ⟨glt, -, -⟩ := stk_lt h
  have y0 : w.cell? ⟨g, 0, none⟩ = some (.slice A0 E.M.f0.length c0) := (blk_cell h.1 0).trans rfl
  have y1 : w.cell? ⟨g, 1, none⟩ = some (.slice A1 E.M.f1.length c1) := (blk_cell h.1 1).trans rfl
  have y2 : w.cell? ⟨g, 2, none⟩ = some (.slice A2 E.M.f2.length c2) := (blk_cell h.1 2).trans rfl
  have y3 : w.cell? ⟨g, 3, none⟩ = some (.slice A3 E.M.f3.length c3) := (blk_cell h.1 3).trans rfl
  have y4 : w.cell? ⟨g, 4, none⟩ = some (.slice A4 E.M.f4.length c4) := (blk_cell h.1 4).trans rfl
  have y5 : w.cell? ⟨g, 5, none⟩ = some (.slice A5 E.M.f5.length c5) := (blk_cell h.1 5).trans rfl
  have y6 : w.cell? ⟨g, 6, none⟩ = some (.slice A6 E.M.f6.length c6) := (blk_cell h.1 6).trans rfl
  have y7 : w.cell? ⟨g, 7, none⟩ = some (.slice A7 E.M.f7.length c7) := (blk_cell h.1 7).trans rfl
  have y8 : w.cell? ⟨g, 8, none⟩ = some (.slice PL E.L.length kL) := (blk_cell h.1 8).trans rfl
  have y12 := (blk_cell h.1 12).trans (stk_12 h.2.1 _ _ _)
  have HA : Hid (∀ w, Calls Tryz.prog 88 #[.int .i64 op] w (fun e w' => e = .returned (.tuple #[.int .i64 (Sp.accN op), .int .i64 (Sp.accT0 op), .bool (Sp.accS op), .bool true]) ∧ w = w')) := Lib.hid (fun w => by have := ops_Access op w; rw [hA] at this; exact this)
  have HO : Hid (∀ w, Calls Tryz.prog 87 #[.int .i64 op] w (fun e w' => e = .returned (.bool false) ∧ w = w')) := Lib.hid (fun w => by have := ops_Opens op w; rw [hO] at this; exact this)
  have HK := Lib.hid hK
  clear h hE hI hK hL hA hO
  go_enter Tryz.func46, Tryz.ntmps46
  go_wp2_with (first | ((go_at_call 88); (with_reducible refine (HA.out _).mono ?_); rintro e w' ⟨rfl, rfl⟩) | ((go_at_call 87); (with_reducible refine (HO.out _).mono ?_); rintro e w' ⟨rfl, rfl⟩) | ((go_at_call 43); (refine (check_there _ _ _).mono ?_); rintro e w' ⟨rfl, rfl⟩))
  go_ret
  exact ⟨rfl, (by repeat (first | exact Below.refl _ _ | exact HBS.out | refine below_alloc ?_ _ | refine below_drewN ?_ _))⟩
set_option maxRecDepth 100000 in
set_option maxHeartbeats 4000000 in
theorem known_35 (w : World) (base g : Nat) (E : Sp.Env) (cs : List Value) (vL v1 v2 : Value) (s : Sp.St) (vT vF : Value) (h : StkAt w base g (RowsD vL v1 v2) (cs ++ [vL, v1, v2]) s vT vF) (hE : EnvAt w base E cs vL v1 v2) (hI : Sp.SInv s) (a b n : Int) (A : Option Addr) (l c : Nat) (op : Int) (hA : Sp.accB op = false) (hO : Sp.opens op = false) (b12 : (op == 12) = false) (b13 : (op == 13) = false) (b14 : (op == 14) = false) (b16 : (op == 16) = false) (b18 : (op == 18) = false) (b32 : (op == 32) = false) (b33 : (op == 33) = false) (b34 : (op == 34) = false) (b35 : (op == 35) = true) : Calls Tryz.prog 46 #[.pointer (some ⟨g, 0, none⟩), instV op a b n (.slice A l c)] w (BoolEnd (Sp.within a 0 ((E.M.f4.length : Int) - 1)) w) := by
  have hK := env_K hE
  obtain ⟨A0, c0, A1, c1, A2, c2, A3, c3, A4, c4, A5, c5, A6, c6, A7, c7, rfl, -⟩ := kMod_open hK
  have hL := hE.choose_spec.2.2.2.1
  obtain ⟨PL, kL, rfl⟩ := Kd.R_slice hL
  obtain ⟨PF, kF, rfl⟩ := Kd.R_slice h.2.2.2.2.2.1
  obtain ⟨glt, -, -⟩ := stk_lt h
  have y0 : w.cell? ⟨g, 0, none⟩ = some (.slice A0 E.M.f0.length c0) := (blk_cell h.1 0).trans rfl
  have y1 : w.cell? ⟨g, 1, none⟩ = some (.slice A1 E.M.f1.length c1) := (blk_cell h.1 1).trans rfl
  have y2 : w.cell? ⟨g, 2, none⟩ = some (.slice A2 E.M.f2.length c2) := (blk_cell h.1 2).trans rfl
  have y3 : w.cell? ⟨g, 3, none⟩ = some (.slice A3 E.M.f3.length c3) := (blk_cell h.1 3).trans rfl
  have y4 : w.cell? ⟨g, 4, none⟩ = some (.slice A4 E.M.f4.length c4) := (blk_cell h.1 4).trans rfl
  have y5 : w.cell? ⟨g, 5, none⟩ = some (.slice A5 E.M.f5.length c5) := (blk_cell h.1 5).trans rfl
  have y6 : w.cell? ⟨g, 6, none⟩ = some (.slice A6 E.M.f6.length c6) := (blk_cell h.1 6).trans rfl
  have y7 : w.cell? ⟨g, 7, none⟩ = some (.slice A7 E.M.f7.length c7) := (blk_cell h.1 7).trans rfl
  have y8 : w.cell? ⟨g, 8, none⟩ = some (.slice PL E.L.length kL) := (blk_cell h.1 8).trans rfl
  have y12 := (blk_cell h.1 12).trans (stk_12 h.2.1 _ _ _)
  have HA : Hid (∀ w, Calls Tryz.prog 88 #[.int .i64 op] w (fun e w' => e = .returned (.tuple #[.int .i64 (Sp.accN op), .int .i64 (Sp.accT0 op), .bool (Sp.accS op), .bool false]) ∧ w = w')) := Lib.hid (fun w => by have := ops_Access op w; rw [hA] at this; exact this)
  have HO : Hid (∀ w, Calls Tryz.prog 87 #[.int .i64 op] w (fun e w' => e = .returned (.bool false) ∧ w = w')) := Lib.hid (fun w => by have := ops_Opens op w; rw [hO] at this; exact this)
  have HK := Lib.hid hK
  clear h hE hI hK hL hA hO
  go_enter Tryz.func46, Tryz.ntmps46
  go_wp2_with (first | ((go_at_call 88); (with_reducible refine (HA.out _).mono ?_); rintro e w' ⟨rfl, rfl⟩) | ((go_at_call 87); (with_reducible refine (HO.out _).mono ?_); rintro e w' ⟨rfl, rfl⟩) | ((go_at_call 43); (refine (check_there _ _ _).mono ?_); rintro e w' ⟨rfl, rfl⟩))
  go_ret
  exact ⟨rfl, (by repeat (first | exact Below.refl _ _ | exact HBS.out | refine below_alloc ?_ _ | refine below_drewN ?_ _))⟩
set_option maxRecDepth 100000 in
set_option maxHeartbeats 4000000 in
theorem known_36 (w : World) (base g : Nat) (E : Sp.Env) (cs : List Value) (vL v1 v2 : Value) (s : Sp.St) (vT vF : Value) (h : StkAt w base g (RowsD vL v1 v2) (cs ++ [vL, v1, v2]) s vT vF) (hE : EnvAt w base E cs vL v1 v2) (hI : Sp.SInv s) (a b n : Int) (A : Option Addr) (l c : Nat) (op : Int) (hA : Sp.accB op = false) (hO : Sp.opens op = false) (b12 : (op == 12) = false) (b13 : (op == 13) = false) (b14 : (op == 14) = false) (b16 : (op == 16) = false) (b18 : (op == 18) = false) (b32 : (op == 32) = false) (b33 : (op == 33) = false) (b34 : (op == 34) = false) (b35 : (op == 35) = false) (b36 : (op == 36) = true) : Calls Tryz.prog 46 #[.pointer (some ⟨g, 0, none⟩), instV op a b n (.slice A l c)] w (BoolEnd (Sp.within a 0 ((E.M.f4.length : Int) - 1)) w) := by
  have hK := env_K hE
  obtain ⟨A0, c0, A1, c1, A2, c2, A3, c3, A4, c4, A5, c5, A6, c6, A7, c7, rfl, -⟩ := kMod_open hK
  have hL := hE.choose_spec.2.2.2.1
  obtain ⟨PL, kL, rfl⟩ := Kd.R_slice hL
  obtain ⟨PF, kF, rfl⟩ := Kd.R_slice h.2.2.2.2.2.1
  obtain ⟨glt, -, -⟩ := stk_lt h
  have y0 : w.cell? ⟨g, 0, none⟩ = some (.slice A0 E.M.f0.length c0) := (blk_cell h.1 0).trans rfl
  have y1 : w.cell? ⟨g, 1, none⟩ = some (.slice A1 E.M.f1.length c1) := (blk_cell h.1 1).trans rfl
  have y2 : w.cell? ⟨g, 2, none⟩ = some (.slice A2 E.M.f2.length c2) := (blk_cell h.1 2).trans rfl
  have y3 : w.cell? ⟨g, 3, none⟩ = some (.slice A3 E.M.f3.length c3) := (blk_cell h.1 3).trans rfl
  have y4 : w.cell? ⟨g, 4, none⟩ = some (.slice A4 E.M.f4.length c4) := (blk_cell h.1 4).trans rfl
  have y5 : w.cell? ⟨g, 5, none⟩ = some (.slice A5 E.M.f5.length c5) := (blk_cell h.1 5).trans rfl
  have y6 : w.cell? ⟨g, 6, none⟩ = some (.slice A6 E.M.f6.length c6) := (blk_cell h.1 6).trans rfl
  have y7 : w.cell? ⟨g, 7, none⟩ = some (.slice A7 E.M.f7.length c7) := (blk_cell h.1 7).trans rfl
  have y8 : w.cell? ⟨g, 8, none⟩ = some (.slice PL E.L.length kL) := (blk_cell h.1 8).trans rfl
  have y12 := (blk_cell h.1 12).trans (stk_12 h.2.1 _ _ _)
  have HA : Hid (∀ w, Calls Tryz.prog 88 #[.int .i64 op] w (fun e w' => e = .returned (.tuple #[.int .i64 (Sp.accN op), .int .i64 (Sp.accT0 op), .bool (Sp.accS op), .bool false]) ∧ w = w')) := Lib.hid (fun w => by have := ops_Access op w; rw [hA] at this; exact this)
  have HO : Hid (∀ w, Calls Tryz.prog 87 #[.int .i64 op] w (fun e w' => e = .returned (.bool false) ∧ w = w')) := Lib.hid (fun w => by have := ops_Opens op w; rw [hO] at this; exact this)
  have HK := Lib.hid hK
  clear h hE hI hK hL hA hO
  go_enter Tryz.func46, Tryz.ntmps46
  go_wp2_with (first | ((go_at_call 88); (with_reducible refine (HA.out _).mono ?_); rintro e w' ⟨rfl, rfl⟩) | ((go_at_call 87); (with_reducible refine (HO.out _).mono ?_); rintro e w' ⟨rfl, rfl⟩) | ((go_at_call 43); (refine (check_there _ _ _).mono ?_); rintro e w' ⟨rfl, rfl⟩))
  go_ret
  exact ⟨rfl, (by repeat (first | exact Below.refl _ _ | exact HBS.out | refine below_alloc ?_ _ | refine below_drewN ?_ _))⟩
set_option maxRecDepth 100000 in
set_option maxHeartbeats 4000000 in
theorem known_63 (w : World) (base g : Nat) (E : Sp.Env) (cs : List Value) (vL v1 v2 : Value) (s : Sp.St) (vT vF : Value) (h : StkAt w base g (RowsD vL v1 v2) (cs ++ [vL, v1, v2]) s vT vF) (hE : EnvAt w base E cs vL v1 v2) (hI : Sp.SInv s) (a b n : Int) (A : Option Addr) (l c : Nat) (op : Int) (hA : Sp.accB op = false) (hO : Sp.opens op = false) (b12 : (op == 12) = false) (b13 : (op == 13) = false) (b14 : (op == 14) = false) (b16 : (op == 16) = false) (b18 : (op == 18) = false) (b32 : (op == 32) = false) (b33 : (op == 33) = false) (b34 : (op == 34) = false) (b35 : (op == 35) = false) (b36 : (op == 36) = false) (b63 : (op == 63) = true) : Calls Tryz.prog 46 #[.pointer (some ⟨g, 0, none⟩), instV op a b n (.slice A l c)] w (BoolEnd (Sp.within a 0 ((E.M.f3.length : Int) - 1)) w) := by
  have hK := env_K hE
  obtain ⟨A0, c0, A1, c1, A2, c2, A3, c3, A4, c4, A5, c5, A6, c6, A7, c7, rfl, -⟩ := kMod_open hK
  have hL := hE.choose_spec.2.2.2.1
  obtain ⟨PL, kL, rfl⟩ := Kd.R_slice hL
  obtain ⟨PF, kF, rfl⟩ := Kd.R_slice h.2.2.2.2.2.1
  obtain ⟨glt, -, -⟩ := stk_lt h
  have y0 : w.cell? ⟨g, 0, none⟩ = some (.slice A0 E.M.f0.length c0) := (blk_cell h.1 0).trans rfl
  have y1 : w.cell? ⟨g, 1, none⟩ = some (.slice A1 E.M.f1.length c1) := (blk_cell h.1 1).trans rfl
  have y2 : w.cell? ⟨g, 2, none⟩ = some (.slice A2 E.M.f2.length c2) := (blk_cell h.1 2).trans rfl
  have y3 : w.cell? ⟨g, 3, none⟩ = some (.slice A3 E.M.f3.length c3) := (blk_cell h.1 3).trans rfl
  have y4 : w.cell? ⟨g, 4, none⟩ = some (.slice A4 E.M.f4.length c4) := (blk_cell h.1 4).trans rfl
  have y5 : w.cell? ⟨g, 5, none⟩ = some (.slice A5 E.M.f5.length c5) := (blk_cell h.1 5).trans rfl
  have y6 : w.cell? ⟨g, 6, none⟩ = some (.slice A6 E.M.f6.length c6) := (blk_cell h.1 6).trans rfl
  have y7 : w.cell? ⟨g, 7, none⟩ = some (.slice A7 E.M.f7.length c7) := (blk_cell h.1 7).trans rfl
  have y8 : w.cell? ⟨g, 8, none⟩ = some (.slice PL E.L.length kL) := (blk_cell h.1 8).trans rfl
  have y12 := (blk_cell h.1 12).trans (stk_12 h.2.1 _ _ _)
  have HA : Hid (∀ w, Calls Tryz.prog 88 #[.int .i64 op] w (fun e w' => e = .returned (.tuple #[.int .i64 (Sp.accN op), .int .i64 (Sp.accT0 op), .bool (Sp.accS op), .bool false]) ∧ w = w')) := Lib.hid (fun w => by have := ops_Access op w; rw [hA] at this; exact this)
  have HO : Hid (∀ w, Calls Tryz.prog 87 #[.int .i64 op] w (fun e w' => e = .returned (.bool false) ∧ w = w')) := Lib.hid (fun w => by have := ops_Opens op w; rw [hO] at this; exact this)
  have HK := Lib.hid hK
  clear h hE hI hK hL hA hO
  go_enter Tryz.func46, Tryz.ntmps46
  go_wp2_with (first | ((go_at_call 88); (with_reducible refine (HA.out _).mono ?_); rintro e w' ⟨rfl, rfl⟩) | ((go_at_call 87); (with_reducible refine (HO.out _).mono ?_); rintro e w' ⟨rfl, rfl⟩) | ((go_at_call 43); (refine (check_there _ _ _).mono ?_); rintro e w' ⟨rfl, rfl⟩))
  go_ret
  exact ⟨rfl, (by repeat (first | exact Below.refl _ _ | exact HBS.out | refine below_alloc ?_ _ | refine below_drewN ?_ _))⟩
set_option maxRecDepth 100000 in
set_option maxHeartbeats 4000000 in
theorem known_64 (w : World) (base g : Nat) (E : Sp.Env) (cs : List Value) (vL v1 v2 : Value) (s : Sp.St) (vT vF : Value) (h : StkAt w base g (RowsD vL v1 v2) (cs ++ [vL, v1, v2]) s vT vF) (hE : EnvAt w base E cs vL v1 v2) (hI : Sp.SInv s) (a b n : Int) (A : Option Addr) (l c : Nat) (op : Int) (hA : Sp.accB op = false) (hO : Sp.opens op = false) (b12 : (op == 12) = false) (b13 : (op == 13) = false) (b14 : (op == 14) = false) (b16 : (op == 16) = false) (b18 : (op == 18) = false) (b32 : (op == 32) = false) (b33 : (op == 33) = false) (b34 : (op == 34) = false) (b35 : (op == 35) = false) (b36 : (op == 36) = false) (b63 : (op == 63) = false) (b64 : (op == 64) = true) : Calls Tryz.prog 46 #[.pointer (some ⟨g, 0, none⟩), instV op a b n (.slice A l c)] w (BoolEnd (Sp.within a 0 ((E.M.f3.length : Int) - 1)) w) := by
  have hK := env_K hE
  obtain ⟨A0, c0, A1, c1, A2, c2, A3, c3, A4, c4, A5, c5, A6, c6, A7, c7, rfl, -⟩ := kMod_open hK
  have hL := hE.choose_spec.2.2.2.1
  obtain ⟨PL, kL, rfl⟩ := Kd.R_slice hL
  obtain ⟨PF, kF, rfl⟩ := Kd.R_slice h.2.2.2.2.2.1
  obtain ⟨glt, -, -⟩ := stk_lt h
  have y0 : w.cell? ⟨g, 0, none⟩ = some (.slice A0 E.M.f0.length c0) := (blk_cell h.1 0).trans rfl
  have y1 : w.cell? ⟨g, 1, none⟩ = some (.slice A1 E.M.f1.length c1) := (blk_cell h.1 1).trans rfl
  have y2 : w.cell? ⟨g, 2, none⟩ = some (.slice A2 E.M.f2.length c2) := (blk_cell h.1 2).trans rfl
  have y3 : w.cell? ⟨g, 3, none⟩ = some (.slice A3 E.M.f3.length c3) := (blk_cell h.1 3).trans rfl
  have y4 : w.cell? ⟨g, 4, none⟩ = some (.slice A4 E.M.f4.length c4) := (blk_cell h.1 4).trans rfl
  have y5 : w.cell? ⟨g, 5, none⟩ = some (.slice A5 E.M.f5.length c5) := (blk_cell h.1 5).trans rfl
  have y6 : w.cell? ⟨g, 6, none⟩ = some (.slice A6 E.M.f6.length c6) := (blk_cell h.1 6).trans rfl
  have y7 : w.cell? ⟨g, 7, none⟩ = some (.slice A7 E.M.f7.length c7) := (blk_cell h.1 7).trans rfl
  have y8 : w.cell? ⟨g, 8, none⟩ = some (.slice PL E.L.length kL) := (blk_cell h.1 8).trans rfl
  have y12 := (blk_cell h.1 12).trans (stk_12 h.2.1 _ _ _)
  have HA : Hid (∀ w, Calls Tryz.prog 88 #[.int .i64 op] w (fun e w' => e = .returned (.tuple #[.int .i64 (Sp.accN op), .int .i64 (Sp.accT0 op), .bool (Sp.accS op), .bool false]) ∧ w = w')) := Lib.hid (fun w => by have := ops_Access op w; rw [hA] at this; exact this)
  have HO : Hid (∀ w, Calls Tryz.prog 87 #[.int .i64 op] w (fun e w' => e = .returned (.bool false) ∧ w = w')) := Lib.hid (fun w => by have := ops_Opens op w; rw [hO] at this; exact this)
  have HK := Lib.hid hK
  clear h hE hI hK hL hA hO
  go_enter Tryz.func46, Tryz.ntmps46
  go_wp2_with (first | ((go_at_call 88); (with_reducible refine (HA.out _).mono ?_); rintro e w' ⟨rfl, rfl⟩) | ((go_at_call 87); (with_reducible refine (HO.out _).mono ?_); rintro e w' ⟨rfl, rfl⟩) | ((go_at_call 43); (refine (check_there _ _ _).mono ?_); rintro e w' ⟨rfl, rfl⟩))
  go_ret
  exact ⟨rfl, (by repeat (first | exact Below.refl _ _ | exact HBS.out | refine below_alloc ?_ _ | refine below_drewN ?_ _))⟩
set_option maxRecDepth 100000 in
set_option maxHeartbeats 4000000 in
theorem known_64523 (w : World) (base g : Nat) (E : Sp.Env) (cs : List Value) (vL v1 v2 : Value) (s : Sp.St) (vT vF : Value) (h : StkAt w base g (RowsD vL v1 v2) (cs ++ [vL, v1, v2]) s vT vF) (hE : EnvAt w base E cs vL v1 v2) (hI : Sp.SInv s) (a b n : Int) (A : Option Addr) (l c : Nat) (op : Int) (hA : Sp.accB op = false) (hO : Sp.opens op = false) (b12 : (op == 12) = false) (b13 : (op == 13) = false) (b14 : (op == 14) = false) (b16 : (op == 16) = false) (b18 : (op == 18) = false) (b32 : (op == 32) = false) (b33 : (op == 33) = false) (b34 : (op == 34) = false) (b35 : (op == 35) = false) (b36 : (op == 36) = false) (b63 : (op == 63) = false) (b64 : (op == 64) = false) (b64523 : (op == 64523) = true) : Calls Tryz.prog 46 #[.pointer (some ⟨g, 0, none⟩), instV op a b n (.slice A l c)] w (BoolEnd (Sp.within a 0 ((E.M.f3.length : Int) - 1)) w) := by
  have hK := env_K hE
  obtain ⟨A0, c0, A1, c1, A2, c2, A3, c3, A4, c4, A5, c5, A6, c6, A7, c7, rfl, -⟩ := kMod_open hK
  have hL := hE.choose_spec.2.2.2.1
  obtain ⟨PL, kL, rfl⟩ := Kd.R_slice hL
  obtain ⟨PF, kF, rfl⟩ := Kd.R_slice h.2.2.2.2.2.1
  obtain ⟨glt, -, -⟩ := stk_lt h
  have y0 : w.cell? ⟨g, 0, none⟩ = some (.slice A0 E.M.f0.length c0) := (blk_cell h.1 0).trans rfl
  have y1 : w.cell? ⟨g, 1, none⟩ = some (.slice A1 E.M.f1.length c1) := (blk_cell h.1 1).trans rfl
  have y2 : w.cell? ⟨g, 2, none⟩ = some (.slice A2 E.M.f2.length c2) := (blk_cell h.1 2).trans rfl
  have y3 : w.cell? ⟨g, 3, none⟩ = some (.slice A3 E.M.f3.length c3) := (blk_cell h.1 3).trans rfl
  have y4 : w.cell? ⟨g, 4, none⟩ = some (.slice A4 E.M.f4.length c4) := (blk_cell h.1 4).trans rfl
  have y5 : w.cell? ⟨g, 5, none⟩ = some (.slice A5 E.M.f5.length c5) := (blk_cell h.1 5).trans rfl
  have y6 : w.cell? ⟨g, 6, none⟩ = some (.slice A6 E.M.f6.length c6) := (blk_cell h.1 6).trans rfl
  have y7 : w.cell? ⟨g, 7, none⟩ = some (.slice A7 E.M.f7.length c7) := (blk_cell h.1 7).trans rfl
  have y8 : w.cell? ⟨g, 8, none⟩ = some (.slice PL E.L.length kL) := (blk_cell h.1 8).trans rfl
  have y12 := (blk_cell h.1 12).trans (stk_12 h.2.1 _ _ _)
  have HA : Hid (∀ w, Calls Tryz.prog 88 #[.int .i64 op] w (fun e w' => e = .returned (.tuple #[.int .i64 (Sp.accN op), .int .i64 (Sp.accT0 op), .bool (Sp.accS op), .bool false]) ∧ w = w')) := Lib.hid (fun w => by have := ops_Access op w; rw [hA] at this; exact this)
  have HO : Hid (∀ w, Calls Tryz.prog 87 #[.int .i64 op] w (fun e w' => e = .returned (.bool false) ∧ w = w')) := Lib.hid (fun w => by have := ops_Opens op w; rw [hO] at this; exact this)
  have HK := Lib.hid hK
  clear h hE hI hK hL hA hO
  go_enter Tryz.func46, Tryz.ntmps46
  go_wp2_with (first | ((go_at_call 88); (with_reducible refine (HA.out _).mono ?_); rintro e w' ⟨rfl, rfl⟩) | ((go_at_call 87); (with_reducible refine (HO.out _).mono ?_); rintro e w' ⟨rfl, rfl⟩) | ((go_at_call 43); (refine (check_there _ _ _).mono ?_); rintro e w' ⟨rfl, rfl⟩))
  go_ret
  exact ⟨rfl, (by repeat (first | exact Below.refl _ _ | exact HBS.out | refine below_alloc ?_ _ | refine below_drewN ?_ _))⟩
set_option maxRecDepth 100000 in
set_option maxHeartbeats 4000000 in
theorem known_64521 (w : World) (base g : Nat) (E : Sp.Env) (cs : List Value) (vL v1 v2 : Value) (s : Sp.St) (vT vF : Value) (h : StkAt w base g (RowsD vL v1 v2) (cs ++ [vL, v1, v2]) s vT vF) (hE : EnvAt w base E cs vL v1 v2) (hI : Sp.SInv s) (a b n : Int) (A : Option Addr) (l c : Nat) (op : Int) (hA : Sp.accB op = false) (hO : Sp.opens op = false) (b12 : (op == 12) = false) (b13 : (op == 13) = false) (b14 : (op == 14) = false) (b16 : (op == 16) = false) (b18 : (op == 18) = false) (b32 : (op == 32) = false) (b33 : (op == 33) = false) (b34 : (op == 34) = false) (b35 : (op == 35) = false) (b36 : (op == 36) = false) (b63 : (op == 63) = false) (b64 : (op == 64) = false) (b64523 : (op == 64523) = false) (b64520 : (op == 64520) = false) (b64521 : (op == 64521) = true) : Calls Tryz.prog 46 #[.pointer (some ⟨g, 0, none⟩), instV op a b n (.slice A l c)] w (BoolEnd (Sp.within a 0 ((E.M.f6.length : Int) - 1)) w) := by
  have hK := env_K hE
  obtain ⟨A0, c0, A1, c1, A2, c2, A3, c3, A4, c4, A5, c5, A6, c6, A7, c7, rfl, -⟩ := kMod_open hK
  have hL := hE.choose_spec.2.2.2.1
  obtain ⟨PL, kL, rfl⟩ := Kd.R_slice hL
  obtain ⟨PF, kF, rfl⟩ := Kd.R_slice h.2.2.2.2.2.1
  obtain ⟨glt, -, -⟩ := stk_lt h
  have y0 : w.cell? ⟨g, 0, none⟩ = some (.slice A0 E.M.f0.length c0) := (blk_cell h.1 0).trans rfl
  have y1 : w.cell? ⟨g, 1, none⟩ = some (.slice A1 E.M.f1.length c1) := (blk_cell h.1 1).trans rfl
  have y2 : w.cell? ⟨g, 2, none⟩ = some (.slice A2 E.M.f2.length c2) := (blk_cell h.1 2).trans rfl
  have y3 : w.cell? ⟨g, 3, none⟩ = some (.slice A3 E.M.f3.length c3) := (blk_cell h.1 3).trans rfl
  have y4 : w.cell? ⟨g, 4, none⟩ = some (.slice A4 E.M.f4.length c4) := (blk_cell h.1 4).trans rfl
  have y5 : w.cell? ⟨g, 5, none⟩ = some (.slice A5 E.M.f5.length c5) := (blk_cell h.1 5).trans rfl
  have y6 : w.cell? ⟨g, 6, none⟩ = some (.slice A6 E.M.f6.length c6) := (blk_cell h.1 6).trans rfl
  have y7 : w.cell? ⟨g, 7, none⟩ = some (.slice A7 E.M.f7.length c7) := (blk_cell h.1 7).trans rfl
  have y8 : w.cell? ⟨g, 8, none⟩ = some (.slice PL E.L.length kL) := (blk_cell h.1 8).trans rfl
  have y12 := (blk_cell h.1 12).trans (stk_12 h.2.1 _ _ _)
  have HA : Hid (∀ w, Calls Tryz.prog 88 #[.int .i64 op] w (fun e w' => e = .returned (.tuple #[.int .i64 (Sp.accN op), .int .i64 (Sp.accT0 op), .bool (Sp.accS op), .bool false]) ∧ w = w')) := Lib.hid (fun w => by have := ops_Access op w; rw [hA] at this; exact this)
  have HO : Hid (∀ w, Calls Tryz.prog 87 #[.int .i64 op] w (fun e w' => e = .returned (.bool false) ∧ w = w')) := Lib.hid (fun w => by have := ops_Opens op w; rw [hO] at this; exact this)
  have HK := Lib.hid hK
  clear h hE hI hK hL hA hO
  go_enter Tryz.func46, Tryz.ntmps46
  go_wp2_with (first | ((go_at_call 88); (with_reducible refine (HA.out _).mono ?_); rintro e w' ⟨rfl, rfl⟩) | ((go_at_call 87); (with_reducible refine (HO.out _).mono ?_); rintro e w' ⟨rfl, rfl⟩) | ((go_at_call 43); (refine (check_there _ _ _).mono ?_); rintro e w' ⟨rfl, rfl⟩))
  go_ret
  exact ⟨rfl, (by repeat (first | exact Below.refl _ _ | exact HBS.out | refine below_alloc ?_ _ | refine below_drewN ?_ _))⟩
set_option maxRecDepth 100000 in
set_option maxHeartbeats 4000000 in
theorem known_64520_true (w : World) (base g : Nat) (E : Sp.Env) (cs : List Value) (vL v1 v2 : Value) (s : Sp.St) (vT vF : Value) (h : StkAt w base g (RowsD vL v1 v2) (cs ++ [vL, v1, v2]) s vT vF) (hE : EnvAt w base E cs vL v1 v2) (hI : Sp.SInv s) (a b n : Int) (A : Option Addr) (l c : Nat) (op : Int) (hA : Sp.accB op = false) (hO : Sp.opens op = false) (b12 : (op == 12) = false) (b13 : (op == 13) = false) (b14 : (op == 14) = false) (b16 : (op == 16) = false) (b18 : (op == 18) = false) (b32 : (op == 32) = false) (b33 : (op == 33) = false) (b34 : (op == 34) = false) (b35 : (op == 35) = false) (b36 : (op == 36) = false) (b63 : (op == 63) = false) (b64 : (op == 64) = false) (b64523 : (op == 64523) = false) (b64520 : (op == 64520) = true) (wa : Sp.within a 0 ((E.M.f3.length : Int) - 1) = true) : Calls Tryz.prog 46 #[.pointer (some ⟨g, 0, none⟩), instV op a b n (.slice A l c)] w (BoolEnd (Sp.within b 0 ((E.M.f6.length : Int) - 1)) w) := by
  have hK := env_K hE
  obtain ⟨A0, c0, A1, c1, A2, c2, A3, c3, A4, c4, A5, c5, A6, c6, A7, c7, rfl, -⟩ := kMod_open hK
  have hL := hE.choose_spec.2.2.2.1
  obtain ⟨PL, kL, rfl⟩ := Kd.R_slice hL
  obtain ⟨PF, kF, rfl⟩ := Kd.R_slice h.2.2.2.2.2.1
  obtain ⟨glt, -, -⟩ := stk_lt h
  have y0 : w.cell? ⟨g, 0, none⟩ = some (.slice A0 E.M.f0.length c0) := (blk_cell h.1 0).trans rfl
  have y1 : w.cell? ⟨g, 1, none⟩ = some (.slice A1 E.M.f1.length c1) := (blk_cell h.1 1).trans rfl
  have y2 : w.cell? ⟨g, 2, none⟩ = some (.slice A2 E.M.f2.length c2) := (blk_cell h.1 2).trans rfl
  have y3 : w.cell? ⟨g, 3, none⟩ = some (.slice A3 E.M.f3.length c3) := (blk_cell h.1 3).trans rfl
  have y4 : w.cell? ⟨g, 4, none⟩ = some (.slice A4 E.M.f4.length c4) := (blk_cell h.1 4).trans rfl
  have y5 : w.cell? ⟨g, 5, none⟩ = some (.slice A5 E.M.f5.length c5) := (blk_cell h.1 5).trans rfl
  have y6 : w.cell? ⟨g, 6, none⟩ = some (.slice A6 E.M.f6.length c6) := (blk_cell h.1 6).trans rfl
  have y7 : w.cell? ⟨g, 7, none⟩ = some (.slice A7 E.M.f7.length c7) := (blk_cell h.1 7).trans rfl
  have y8 : w.cell? ⟨g, 8, none⟩ = some (.slice PL E.L.length kL) := (blk_cell h.1 8).trans rfl
  have y12 := (blk_cell h.1 12).trans (stk_12 h.2.1 _ _ _)
  have HA : Hid (∀ w, Calls Tryz.prog 88 #[.int .i64 op] w (fun e w' => e = .returned (.tuple #[.int .i64 (Sp.accN op), .int .i64 (Sp.accT0 op), .bool (Sp.accS op), .bool false]) ∧ w = w')) := Lib.hid (fun w => by have := ops_Access op w; rw [hA] at this; exact this)
  have HO : Hid (∀ w, Calls Tryz.prog 87 #[.int .i64 op] w (fun e w' => e = .returned (.bool false) ∧ w = w')) := Lib.hid (fun w => by have := ops_Opens op w; rw [hO] at this; exact this)
  have HK := Lib.hid hK
  clear h hE hI hK hL hA hO
  go_enter Tryz.func46, Tryz.ntmps46
  go_wp2_with (first | ((go_at_call 88); (with_reducible refine (HA.out _).mono ?_); rintro e w' ⟨rfl, rfl⟩) | ((go_at_call 87); (with_reducible refine (HO.out _).mono ?_); rintro e w' ⟨rfl, rfl⟩) | ((go_at_call 43); (refine (check_there _ _ _).mono ?_); rintro e w' ⟨rfl, rfl⟩))
  go_ret
  exact ⟨rfl, (by repeat (first | exact Below.refl _ _ | exact HBS.out | refine below_alloc ?_ _ | refine below_drewN ?_ _))⟩
set_option maxRecDepth 100000 in
set_option maxHeartbeats 4000000 in
theorem known_64520_false (w : World) (base g : Nat) (E : Sp.Env) (cs : List Value) (vL v1 v2 : Value) (s : Sp.St) (vT vF : Value) (h : StkAt w base g (RowsD vL v1 v2) (cs ++ [vL, v1, v2]) s vT vF) (hE : EnvAt w base E cs vL v1 v2) (hI : Sp.SInv s) (a b n : Int) (A : Option Addr) (l c : Nat) (op : Int) (hA : Sp.accB op = false) (hO : Sp.opens op = false) (b12 : (op == 12) = false) (b13 : (op == 13) = false) (b14 : (op == 14) = false) (b16 : (op == 16) = false) (b18 : (op == 18) = false) (b32 : (op == 32) = false) (b33 : (op == 33) = false) (b34 : (op == 34) = false) (b35 : (op == 35) = false) (b36 : (op == 36) = false) (b63 : (op == 63) = false) (b64 : (op == 64) = false) (b64523 : (op == 64523) = false) (b64520 : (op == 64520) = true) (wa : Sp.within a 0 ((E.M.f3.length : Int) - 1) = false) : Calls Tryz.prog 46 #[.pointer (some ⟨g, 0, none⟩), instV op a b n (.slice A l c)] w (BoolEnd (false) w) := by
  have hK := env_K hE
  obtain ⟨A0, c0, A1, c1, A2, c2, A3, c3, A4, c4, A5, c5, A6, c6, A7, c7, rfl, -⟩ := kMod_open hK
  have hL := hE.choose_spec.2.2.2.1
  obtain ⟨PL, kL, rfl⟩ := Kd.R_slice hL
  obtain ⟨PF, kF, rfl⟩ := Kd.R_slice h.2.2.2.2.2.1
  obtain ⟨glt, -, -⟩ := stk_lt h
  have y0 : w.cell? ⟨g, 0, none⟩ = some (.slice A0 E.M.f0.length c0) := (blk_cell h.1 0).trans rfl
  have y1 : w.cell? ⟨g, 1, none⟩ = some (.slice A1 E.M.f1.length c1) := (blk_cell h.1 1).trans rfl
  have y2 : w.cell? ⟨g, 2, none⟩ = some (.slice A2 E.M.f2.length c2) := (blk_cell h.1 2).trans rfl
  have y3 : w.cell? ⟨g, 3, none⟩ = some (.slice A3 E.M.f3.length c3) := (blk_cell h.1 3).trans rfl
  have y4 : w.cell? ⟨g, 4, none⟩ = some (.slice A4 E.M.f4.length c4) := (blk_cell h.1 4).trans rfl
  have y5 : w.cell? ⟨g, 5, none⟩ = some (.slice A5 E.M.f5.length c5) := (blk_cell h.1 5).trans rfl
  have y6 : w.cell? ⟨g, 6, none⟩ = some (.slice A6 E.M.f6.length c6) := (blk_cell h.1 6).trans rfl
  have y7 : w.cell? ⟨g, 7, none⟩ = some (.slice A7 E.M.f7.length c7) := (blk_cell h.1 7).trans rfl
  have y8 : w.cell? ⟨g, 8, none⟩ = some (.slice PL E.L.length kL) := (blk_cell h.1 8).trans rfl
  have y12 := (blk_cell h.1 12).trans (stk_12 h.2.1 _ _ _)
  have HA : Hid (∀ w, Calls Tryz.prog 88 #[.int .i64 op] w (fun e w' => e = .returned (.tuple #[.int .i64 (Sp.accN op), .int .i64 (Sp.accT0 op), .bool (Sp.accS op), .bool false]) ∧ w = w')) := Lib.hid (fun w => by have := ops_Access op w; rw [hA] at this; exact this)
  have HO : Hid (∀ w, Calls Tryz.prog 87 #[.int .i64 op] w (fun e w' => e = .returned (.bool false) ∧ w = w')) := Lib.hid (fun w => by have := ops_Opens op w; rw [hO] at this; exact this)
  have HK := Lib.hid hK
  clear h hE hI hK hL hA hO
  go_enter Tryz.func46, Tryz.ntmps46
  go_wp2_with (first | ((go_at_call 88); (with_reducible refine (HA.out _).mono ?_); rintro e w' ⟨rfl, rfl⟩) | ((go_at_call 87); (with_reducible refine (HO.out _).mono ?_); rintro e w' ⟨rfl, rfl⟩) | ((go_at_call 43); (refine (check_there _ _ _).mono ?_); rintro e w' ⟨rfl, rfl⟩))
  go_ret
  exact ⟨rfl, (by repeat (first | exact Below.refl _ _ | exact HBS.out | refine below_alloc ?_ _ | refine below_drewN ?_ _))⟩
set_option maxRecDepth 100000 in
set_option maxHeartbeats 4000000 in
theorem known_64522_true (w : World) (base g : Nat) (E : Sp.Env) (cs : List Value) (vL v1 v2 : Value) (s : Sp.St) (vT vF : Value) (h : StkAt w base g (RowsD vL v1 v2) (cs ++ [vL, v1, v2]) s vT vF) (hE : EnvAt w base E cs vL v1 v2) (hI : Sp.SInv s) (a b n : Int) (A : Option Addr) (l c : Nat) (op : Int) (hA : Sp.accB op = false) (hO : Sp.opens op = false) (b12 : (op == 12) = false) (b13 : (op == 13) = false) (b14 : (op == 14) = false) (b16 : (op == 16) = false) (b18 : (op == 18) = false) (b32 : (op == 32) = false) (b33 : (op == 33) = false) (b34 : (op == 34) = false) (b35 : (op == 35) = false) (b36 : (op == 36) = false) (b63 : (op == 63) = false) (b64 : (op == 64) = false) (b64523 : (op == 64523) = false) (b64520 : (op == 64520) = false) (b64521 : (op == 64521) = false) (b64522 : (op == 64522) = true) (wa : Sp.within a 0 ((E.M.f3.length : Int) - 1) = true) : Calls Tryz.prog 46 #[.pointer (some ⟨g, 0, none⟩), instV op a b n (.slice A l c)] w (BoolEnd (Sp.within b 0 ((E.M.f3.length : Int) - 1)) w) := by
  have hK := env_K hE
  obtain ⟨A0, c0, A1, c1, A2, c2, A3, c3, A4, c4, A5, c5, A6, c6, A7, c7, rfl, -⟩ := kMod_open hK
  have hL := hE.choose_spec.2.2.2.1
  obtain ⟨PL, kL, rfl⟩ := Kd.R_slice hL
  obtain ⟨PF, kF, rfl⟩ := Kd.R_slice h.2.2.2.2.2.1
  obtain ⟨glt, -, -⟩ := stk_lt h
  have y0 : w.cell? ⟨g, 0, none⟩ = some (.slice A0 E.M.f0.length c0) := (blk_cell h.1 0).trans rfl
  have y1 : w.cell? ⟨g, 1, none⟩ = some (.slice A1 E.M.f1.length c1) := (blk_cell h.1 1).trans rfl
  have y2 : w.cell? ⟨g, 2, none⟩ = some (.slice A2 E.M.f2.length c2) := (blk_cell h.1 2).trans rfl
  have y3 : w.cell? ⟨g, 3, none⟩ = some (.slice A3 E.M.f3.length c3) := (blk_cell h.1 3).trans rfl
  have y4 : w.cell? ⟨g, 4, none⟩ = some (.slice A4 E.M.f4.length c4) := (blk_cell h.1 4).trans rfl
  have y5 : w.cell? ⟨g, 5, none⟩ = some (.slice A5 E.M.f5.length c5) := (blk_cell h.1 5).trans rfl
  have y6 : w.cell? ⟨g, 6, none⟩ = some (.slice A6 E.M.f6.length c6) := (blk_cell h.1 6).trans rfl
  have y7 : w.cell? ⟨g, 7, none⟩ = some (.slice A7 E.M.f7.length c7) := (blk_cell h.1 7).trans rfl
  have y8 : w.cell? ⟨g, 8, none⟩ = some (.slice PL E.L.length kL) := (blk_cell h.1 8).trans rfl
  have y12 := (blk_cell h.1 12).trans (stk_12 h.2.1 _ _ _)
  have HA : Hid (∀ w, Calls Tryz.prog 88 #[.int .i64 op] w (fun e w' => e = .returned (.tuple #[.int .i64 (Sp.accN op), .int .i64 (Sp.accT0 op), .bool (Sp.accS op), .bool false]) ∧ w = w')) := Lib.hid (fun w => by have := ops_Access op w; rw [hA] at this; exact this)
  have HO : Hid (∀ w, Calls Tryz.prog 87 #[.int .i64 op] w (fun e w' => e = .returned (.bool false) ∧ w = w')) := Lib.hid (fun w => by have := ops_Opens op w; rw [hO] at this; exact this)
  have HK := Lib.hid hK
  clear h hE hI hK hL hA hO
  go_enter Tryz.func46, Tryz.ntmps46
  go_wp2_with (first | ((go_at_call 88); (with_reducible refine (HA.out _).mono ?_); rintro e w' ⟨rfl, rfl⟩) | ((go_at_call 87); (with_reducible refine (HO.out _).mono ?_); rintro e w' ⟨rfl, rfl⟩) | ((go_at_call 43); (refine (check_there _ _ _).mono ?_); rintro e w' ⟨rfl, rfl⟩))
  go_ret
  exact ⟨rfl, (by repeat (first | exact Below.refl _ _ | exact HBS.out | refine below_alloc ?_ _ | refine below_drewN ?_ _))⟩
set_option maxRecDepth 100000 in
set_option maxHeartbeats 4000000 in
theorem known_64522_false (w : World) (base g : Nat) (E : Sp.Env) (cs : List Value) (vL v1 v2 : Value) (s : Sp.St) (vT vF : Value) (h : StkAt w base g (RowsD vL v1 v2) (cs ++ [vL, v1, v2]) s vT vF) (hE : EnvAt w base E cs vL v1 v2) (hI : Sp.SInv s) (a b n : Int) (A : Option Addr) (l c : Nat) (op : Int) (hA : Sp.accB op = false) (hO : Sp.opens op = false) (b12 : (op == 12) = false) (b13 : (op == 13) = false) (b14 : (op == 14) = false) (b16 : (op == 16) = false) (b18 : (op == 18) = false) (b32 : (op == 32) = false) (b33 : (op == 33) = false) (b34 : (op == 34) = false) (b35 : (op == 35) = false) (b36 : (op == 36) = false) (b63 : (op == 63) = false) (b64 : (op == 64) = false) (b64523 : (op == 64523) = false) (b64520 : (op == 64520) = false) (b64521 : (op == 64521) = false) (b64522 : (op == 64522) = true) (wa : Sp.within a 0 ((E.M.f3.length : Int) - 1) = false) : Calls Tryz.prog 46 #[.pointer (some ⟨g, 0, none⟩), instV op a b n (.slice A l c)] w (BoolEnd (false) w) := by
  have hK := env_K hE
  obtain ⟨A0, c0, A1, c1, A2, c2, A3, c3, A4, c4, A5, c5, A6, c6, A7, c7, rfl, -⟩ := kMod_open hK
  have hL := hE.choose_spec.2.2.2.1
  obtain ⟨PL, kL, rfl⟩ := Kd.R_slice hL
  obtain ⟨PF, kF, rfl⟩ := Kd.R_slice h.2.2.2.2.2.1
  obtain ⟨glt, -, -⟩ := stk_lt h
  have y0 : w.cell? ⟨g, 0, none⟩ = some (.slice A0 E.M.f0.length c0) := (blk_cell h.1 0).trans rfl
  have y1 : w.cell? ⟨g, 1, none⟩ = some (.slice A1 E.M.f1.length c1) := (blk_cell h.1 1).trans rfl
  have y2 : w.cell? ⟨g, 2, none⟩ = some (.slice A2 E.M.f2.length c2) := (blk_cell h.1 2).trans rfl
  have y3 : w.cell? ⟨g, 3, none⟩ = some (.slice A3 E.M.f3.length c3) := (blk_cell h.1 3).trans rfl
  have y4 : w.cell? ⟨g, 4, none⟩ = some (.slice A4 E.M.f4.length c4) := (blk_cell h.1 4).trans rfl
  have y5 : w.cell? ⟨g, 5, none⟩ = some (.slice A5 E.M.f5.length c5) := (blk_cell h.1 5).trans rfl
  have y6 : w.cell? ⟨g, 6, none⟩ = some (.slice A6 E.M.f6.length c6) := (blk_cell h.1 6).trans rfl
  have y7 : w.cell? ⟨g, 7, none⟩ = some (.slice A7 E.M.f7.length c7) := (blk_cell h.1 7).trans rfl
  have y8 : w.cell? ⟨g, 8, none⟩ = some (.slice PL E.L.length kL) := (blk_cell h.1 8).trans rfl
  have y12 := (blk_cell h.1 12).trans (stk_12 h.2.1 _ _ _)
  have HA : Hid (∀ w, Calls Tryz.prog 88 #[.int .i64 op] w (fun e w' => e = .returned (.tuple #[.int .i64 (Sp.accN op), .int .i64 (Sp.accT0 op), .bool (Sp.accS op), .bool false]) ∧ w = w')) := Lib.hid (fun w => by have := ops_Access op w; rw [hA] at this; exact this)
  have HO : Hid (∀ w, Calls Tryz.prog 87 #[.int .i64 op] w (fun e w' => e = .returned (.bool false) ∧ w = w')) := Lib.hid (fun w => by have := ops_Opens op w; rw [hO] at this; exact this)
  have HK := Lib.hid hK
  clear h hE hI hK hL hA hO
  go_enter Tryz.func46, Tryz.ntmps46
  go_wp2_with (first | ((go_at_call 88); (with_reducible refine (HA.out _).mono ?_); rintro e w' ⟨rfl, rfl⟩) | ((go_at_call 87); (with_reducible refine (HO.out _).mono ?_); rintro e w' ⟨rfl, rfl⟩) | ((go_at_call 43); (refine (check_there _ _ _).mono ?_); rintro e w' ⟨rfl, rfl⟩))
  go_ret
  exact ⟨rfl, (by repeat (first | exact Below.refl _ _ | exact HBS.out | refine below_alloc ?_ _ | refine below_drewN ?_ _))⟩
set_option maxRecDepth 100000 in
set_option maxHeartbeats 4000000 in
theorem known_open (w : World) (base g : Nat) (E : Sp.Env) (cs : List Value) (vL v1 v2 : Value) (s : Sp.St) (vT vF : Value) (h : StkAt w base g (RowsD vL v1 v2) (cs ++ [vL, v1, v2]) s vT vF) (hE : EnvAt w base E cs vL v1 v2) (hI : Sp.SInv s) (a b n : Int) (A : Option Addr) (l c : Nat) (op : Int) (hA : Sp.accB op = false) (hO : Sp.opens op = true) (hs : SmallTys E.M.f0) : Calls Tryz.prog 46 #[.pointer (some ⟨g, 0, none⟩), instV op a b n (.slice A l c)] w (BoolEnd ((Sp.blockOf E.M a).isSome) w) := by
  have hK := env_K hE
  obtain ⟨A0, c0, A1, c1, A2, c2, A3, c3, A4, c4, A5, c5, A6, c6, A7, c7, rfl, -⟩ := kMod_open hK
  have hL := hE.choose_spec.2.2.2.1
  obtain ⟨PL, kL, rfl⟩ := Kd.R_slice hL
  obtain ⟨PF, kF, rfl⟩ := Kd.R_slice h.2.2.2.2.2.1
  obtain ⟨glt, -, -⟩ := stk_lt h
  have y0 : w.cell? ⟨g, 0, none⟩ = some (.slice A0 E.M.f0.length c0) := (blk_cell h.1 0).trans rfl
  have y1 : w.cell? ⟨g, 1, none⟩ = some (.slice A1 E.M.f1.length c1) := (blk_cell h.1 1).trans rfl
  have y2 : w.cell? ⟨g, 2, none⟩ = some (.slice A2 E.M.f2.length c2) := (blk_cell h.1 2).trans rfl
  have y3 : w.cell? ⟨g, 3, none⟩ = some (.slice A3 E.M.f3.length c3) := (blk_cell h.1 3).trans rfl
  have y4 : w.cell? ⟨g, 4, none⟩ = some (.slice A4 E.M.f4.length c4) := (blk_cell h.1 4).trans rfl
  have y5 : w.cell? ⟨g, 5, none⟩ = some (.slice A5 E.M.f5.length c5) := (blk_cell h.1 5).trans rfl
  have y6 : w.cell? ⟨g, 6, none⟩ = some (.slice A6 E.M.f6.length c6) := (blk_cell h.1 6).trans rfl
  have y7 : w.cell? ⟨g, 7, none⟩ = some (.slice A7 E.M.f7.length c7) := (blk_cell h.1 7).trans rfl
  have y8 : w.cell? ⟨g, 8, none⟩ = some (.slice PL E.L.length kL) := (blk_cell h.1 8).trans rfl
  have y12 := (blk_cell h.1 12).trans (stk_12 h.2.1 _ _ _)
  have HA : Hid (∀ w, Calls Tryz.prog 88 #[.int .i64 op] w (fun e w' => e = .returned (.tuple #[.int .i64 (Sp.accN op), .int .i64 (Sp.accT0 op), .bool (Sp.accS op), .bool false]) ∧ w = w')) := Lib.hid (fun w => by have := ops_Access op w; rw [hA] at this; exact this)
  have HO : Hid (∀ w, Calls Tryz.prog 87 #[.int .i64 op] w (fun e w' => e = .returned (.bool true) ∧ w = w')) := Lib.hid (fun w => by have := ops_Opens op w; rw [hO] at this; exact this)
  have HK := Lib.hid hK
  clear h hE hI hK hL hA hO
  have HBL := Lib.hid (fun (_ : Unit) => module_Block E.M _ a ((w.alloc (instBox op a b n (.slice A l c))).alloc (.cells #[.slice A0 E.M.f0.length c0, .slice A1 E.M.f1.length c1, .slice A2 E.M.f2.length c2, .slice A3 E.M.f3.length c3, .slice A4 E.M.f4.length c4, .slice A5 E.M.f5.length c5, .slice A6 E.M.f6.length c6, .slice A7 E.M.f7.length c7] 37)) (Kd.K_below kMod (below_alloc (below_alloc (Below.refl _ _) _) _) HK.out) hs)
  clear hs
  go_enter Tryz.func46, Tryz.ntmps46
  go_wp2_with (first | ((go_at_call 88); (with_reducible refine (HA.out _).mono ?_); rintro e w' ⟨rfl, rfl⟩) | ((go_at_call 87); (with_reducible refine (HO.out _).mono ?_); rintro e w' ⟨rfl, rfl⟩) | ((go_at_call 43); (refine (check_there _ _ _).mono ?_); rintro e w' ⟨rfl, rfl⟩) | ((go_at_call 89); (with_reducible refine (HBL.out ()).mono ?_); rintro e w2 ⟨u1, u2, rfl, r1, r2, hb⟩; obtain ⟨P1, k1, rfl⟩ := Kd.R_slice r1; obtain ⟨P2, k2, rfl⟩ := Kd.R_slice r2; have HBS := Lib.hid hb; clear r1 r2 hb))
  go_ret
  refine ⟨rfl, below_alloc (below_then (below_alloc (below_alloc (Below.refl _ _) _) _) (by simp; omega) HBS.out) _⟩
set_option maxRecDepth 100000 in
set_option maxHeartbeats 4000000 in
theorem known_16 (w : World) (base g : Nat) (E : Sp.Env) (cs : List Value) (vL v1 v2 : Value) (s : Sp.St) (vT vF : Value) (h : StkAt w base g (RowsD vL v1 v2) (cs ++ [vL, v1, v2]) s vT vF) (hE : EnvAt w base E cs vL v1 v2) (hI : Sp.SInv s) (a b n : Int) (A : Option Addr) (l c : Nat) (op : Int) (hA : Sp.accB op = false) (hO : Sp.opens op = false) (hs : SmallTys E.M.f0) (n1 : E.M.f1.length ≤ 1000000) (n2 : E.M.f2.length ≤ 1000000) (f0 : -2147483648 ≤ a) (f9 : a ≤ 2147483647) (b12 : (op == 12) = false) (b13 : (op == 13) = false) (b14 : (op == 14) = false) (b16 : (op == 16) = true) : Calls Tryz.prog 46 #[.pointer (some ⟨g, 0, none⟩), instV op a b n (.slice A l c)] w (BoolEnd ((Sp.sigOf E.M a).isSome) w) := by
  have hK := env_K hE
  obtain ⟨A0, c0, A1, c1, A2, c2, A3, c3, A4, c4, A5, c5, A6, c6, A7, c7, rfl, -⟩ := kMod_open hK
  have hL := hE.choose_spec.2.2.2.1
  obtain ⟨PL, kL, rfl⟩ := Kd.R_slice hL
  obtain ⟨PF, kF, rfl⟩ := Kd.R_slice h.2.2.2.2.2.1
  obtain ⟨glt, -, -⟩ := stk_lt h
  have y0 : w.cell? ⟨g, 0, none⟩ = some (.slice A0 E.M.f0.length c0) := (blk_cell h.1 0).trans rfl
  have y1 : w.cell? ⟨g, 1, none⟩ = some (.slice A1 E.M.f1.length c1) := (blk_cell h.1 1).trans rfl
  have y2 : w.cell? ⟨g, 2, none⟩ = some (.slice A2 E.M.f2.length c2) := (blk_cell h.1 2).trans rfl
  have y3 : w.cell? ⟨g, 3, none⟩ = some (.slice A3 E.M.f3.length c3) := (blk_cell h.1 3).trans rfl
  have y4 : w.cell? ⟨g, 4, none⟩ = some (.slice A4 E.M.f4.length c4) := (blk_cell h.1 4).trans rfl
  have y5 : w.cell? ⟨g, 5, none⟩ = some (.slice A5 E.M.f5.length c5) := (blk_cell h.1 5).trans rfl
  have y6 : w.cell? ⟨g, 6, none⟩ = some (.slice A6 E.M.f6.length c6) := (blk_cell h.1 6).trans rfl
  have y7 : w.cell? ⟨g, 7, none⟩ = some (.slice A7 E.M.f7.length c7) := (blk_cell h.1 7).trans rfl
  have y8 : w.cell? ⟨g, 8, none⟩ = some (.slice PL E.L.length kL) := (blk_cell h.1 8).trans rfl
  have y12 := (blk_cell h.1 12).trans (stk_12 h.2.1 _ _ _)
  have HA : Hid (∀ w, Calls Tryz.prog 88 #[.int .i64 op] w (fun e w' => e = .returned (.tuple #[.int .i64 (Sp.accN op), .int .i64 (Sp.accT0 op), .bool (Sp.accS op), .bool false]) ∧ w = w')) := Lib.hid (fun w => by have := ops_Access op w; rw [hA] at this; exact this)
  have HO : Hid (∀ w, Calls Tryz.prog 87 #[.int .i64 op] w (fun e w' => e = .returned (.bool false) ∧ w = w')) := Lib.hid (fun w => by have := ops_Opens op w; rw [hO] at this; exact this)
  have HK := Lib.hid hK
  clear h hE hI hK hL hA hO
  have HSG := Lib.hid (fun (_ : Unit) => module_Sig E.M _ a ((w.alloc (instBox op a b n (.slice A l c))).alloc (.cells #[.slice A0 E.M.f0.length c0, .slice A1 E.M.f1.length c1, .slice A2 E.M.f2.length c2, .slice A3 E.M.f3.length c3, .slice A4 E.M.f4.length c4, .slice A5 E.M.f5.length c5, .slice A6 E.M.f6.length c6, .slice A7 E.M.f7.length c7] 37)) (Kd.K_below kMod (below_alloc (below_alloc (Below.refl _ _) _) _) HK.out) n1 n2 hs f0 f9)
  clear hs n1 n2 f0 f9
  go_enter Tryz.func46, Tryz.ntmps46
  go_wp2_with (first | ((go_at_call 88); (with_reducible refine (HA.out _).mono ?_); rintro e w' ⟨rfl, rfl⟩) | ((go_at_call 87); (with_reducible refine (HO.out _).mono ?_); rintro e w' ⟨rfl, rfl⟩) | ((go_at_call 43); (refine (check_there _ _ _).mono ?_); rintro e w' ⟨rfl, rfl⟩) | ((go_at_call 84); (with_reducible refine (HSG.out ()).mono ?_); rintro e w2 ⟨u1, u2, rfl, r1, r2, hb⟩; obtain ⟨P1, k1, rfl⟩ := Kd.R_slice r1; obtain ⟨P2, k2, rfl⟩ := Kd.R_slice r2; have HBS := Lib.hid hb; clear r1 r2 hb))
  go_ret
  refine ⟨rfl, below_alloc (below_then (below_alloc (below_alloc (Below.refl _ _) _) _) (by simp; omega) HBS.out) _⟩
set_option maxRecDepth 100000 in
set_option maxHeartbeats 4000000 in
theorem known_18 (w : World) (base g : Nat) (E : Sp.Env) (cs : List Value) (vL v1 v2 : Value) (s : Sp.St) (vT vF : Value) (h : StkAt w base g (RowsD vL v1 v2) (cs ++ [vL, v1, v2]) s vT vF) (hE : EnvAt w base E cs vL v1 v2) (hI : Sp.SInv s) (a b n : Int) (A : Option Addr) (l c : Nat) (op : Int) (hA : Sp.accB op = false) (hO : Sp.opens op = false) (hs : SmallTys E.M.f0) (n1 : E.M.f1.length ≤ 1000000) (n2 : E.M.f2.length ≤ 1000000) (f0 : -2147483648 ≤ a) (f9 : a ≤ 2147483647) (b12 : (op == 12) = false) (b13 : (op == 13) = false) (b14 : (op == 14) = false) (b16 : (op == 16) = false) (b18 : (op == 18) = true) : Calls Tryz.prog 46 #[.pointer (some ⟨g, 0, none⟩), instV op a b n (.slice A l c)] w (BoolEnd ((Sp.sigOf E.M a).isSome) w) := by
  have hK := env_K hE
  obtain ⟨A0, c0, A1, c1, A2, c2, A3, c3, A4, c4, A5, c5, A6, c6, A7, c7, rfl, -⟩ := kMod_open hK
  have hL := hE.choose_spec.2.2.2.1
  obtain ⟨PL, kL, rfl⟩ := Kd.R_slice hL
  obtain ⟨PF, kF, rfl⟩ := Kd.R_slice h.2.2.2.2.2.1
  obtain ⟨glt, -, -⟩ := stk_lt h
  have y0 : w.cell? ⟨g, 0, none⟩ = some (.slice A0 E.M.f0.length c0) := (blk_cell h.1 0).trans rfl
  have y1 : w.cell? ⟨g, 1, none⟩ = some (.slice A1 E.M.f1.length c1) := (blk_cell h.1 1).trans rfl
  have y2 : w.cell? ⟨g, 2, none⟩ = some (.slice A2 E.M.f2.length c2) := (blk_cell h.1 2).trans rfl
  have y3 : w.cell? ⟨g, 3, none⟩ = some (.slice A3 E.M.f3.length c3) := (blk_cell h.1 3).trans rfl
  have y4 : w.cell? ⟨g, 4, none⟩ = some (.slice A4 E.M.f4.length c4) := (blk_cell h.1 4).trans rfl
  have y5 : w.cell? ⟨g, 5, none⟩ = some (.slice A5 E.M.f5.length c5) := (blk_cell h.1 5).trans rfl
  have y6 : w.cell? ⟨g, 6, none⟩ = some (.slice A6 E.M.f6.length c6) := (blk_cell h.1 6).trans rfl
  have y7 : w.cell? ⟨g, 7, none⟩ = some (.slice A7 E.M.f7.length c7) := (blk_cell h.1 7).trans rfl
  have y8 : w.cell? ⟨g, 8, none⟩ = some (.slice PL E.L.length kL) := (blk_cell h.1 8).trans rfl
  have y12 := (blk_cell h.1 12).trans (stk_12 h.2.1 _ _ _)
  have HA : Hid (∀ w, Calls Tryz.prog 88 #[.int .i64 op] w (fun e w' => e = .returned (.tuple #[.int .i64 (Sp.accN op), .int .i64 (Sp.accT0 op), .bool (Sp.accS op), .bool false]) ∧ w = w')) := Lib.hid (fun w => by have := ops_Access op w; rw [hA] at this; exact this)
  have HO : Hid (∀ w, Calls Tryz.prog 87 #[.int .i64 op] w (fun e w' => e = .returned (.bool false) ∧ w = w')) := Lib.hid (fun w => by have := ops_Opens op w; rw [hO] at this; exact this)
  have HK := Lib.hid hK
  clear h hE hI hK hL hA hO
  have HSG := Lib.hid (fun (_ : Unit) => module_Sig E.M _ a ((w.alloc (instBox op a b n (.slice A l c))).alloc (.cells #[.slice A0 E.M.f0.length c0, .slice A1 E.M.f1.length c1, .slice A2 E.M.f2.length c2, .slice A3 E.M.f3.length c3, .slice A4 E.M.f4.length c4, .slice A5 E.M.f5.length c5, .slice A6 E.M.f6.length c6, .slice A7 E.M.f7.length c7] 37)) (Kd.K_below kMod (below_alloc (below_alloc (Below.refl _ _) _) _) HK.out) n1 n2 hs f0 f9)
  clear hs n1 n2 f0 f9
  go_enter Tryz.func46, Tryz.ntmps46
  go_wp2_with (first | ((go_at_call 88); (with_reducible refine (HA.out _).mono ?_); rintro e w' ⟨rfl, rfl⟩) | ((go_at_call 87); (with_reducible refine (HO.out _).mono ?_); rintro e w' ⟨rfl, rfl⟩) | ((go_at_call 43); (refine (check_there _ _ _).mono ?_); rintro e w' ⟨rfl, rfl⟩) | ((go_at_call 84); (with_reducible refine (HSG.out ()).mono ?_); rintro e w2 ⟨u1, u2, rfl, r1, r2, hb⟩; obtain ⟨P1, k1, rfl⟩ := Kd.R_slice r1; obtain ⟨P2, k2, rfl⟩ := Kd.R_slice r2; have HBS := Lib.hid hb; clear r1 r2 hb))
  go_ret
  refine ⟨rfl, below_alloc (below_then (below_alloc (below_alloc (Below.refl _ _) _) _) (by simp; omega) HBS.out) _⟩
end Go.Proofs.YthehihjcpiadgaaGreat
end
section
namespace Go.Proofs.YthehihjcpiadgaaGreat
open Go.RowKit Go.Proofs.YthehihjcpiadgaaGreatW.PrintWords Go.Proofs.YthehihjcpiadgaaGreatW.PrintLast
set_option linter.unusedSimpArgs false
set_option linter.unusedVariables false
namespace Sp
/-- What holds behind k steps. -/
def SInvK (k : Nat) (s : St) : Prop := SInv s ∧ s.T.length ≤ 8 * k ∧ s.F.length ≤ k + 1 ∧ ∀ i : Int, 0 ≤ i → i < s.F.length → (rd_TFr s.F i).f1.f0.length ≤ 8 ∧ (rd_TFr s.F i).f1.f1.length ≤ 8
/-- The first instruction that may not be there, and why. -/
def run (E : Env) (pl : Bool) : List SInst → Nat → St → Int × Int
  | [], _, _ => (-1, 0)
  | i :: l, k, s => if s.whyNot E pl i = 0 then run E pl l (k + 1) (s.step E i) else ((k : Int), s.whyNot E pl i)
theorem run_drop (E : Env) (pl : Bool) (code : List SInst) (k : Nat) (s : St) (h : k < code.length) : run E pl (code.drop k) k s = if s.whyNot E pl (rd_TInst code k) = 0 then run E pl (code.drop (k + 1)) (k + 1) (s.step E (rd_TInst code k)) else ((k : Int), s.whyNot E pl (rd_TInst code k)) := by
  rw [List.drop_eq_getElem_cons h]
  have e : rd_TInst code (k : Int) = code[k] := by simp [rd_TInst, List.getD_eq_getElem?_getD, h]
  rw [e]
  rfl
def begin (E : Env) : St := ⟨[], [⟨2, ⟨[], E.S.f1⟩, 0, false⟩], false⟩
end Sp
def KnownOk (E : Sp.Env) (i : SInst) : Prop := ∀ (w : World) (base g : Nat) (cs : List Value) (vL v1 v2 : Value) (s : Sp.St) (vT vF : Value) (A : Option Addr) (c : Nat),
  StkAt w base g (RowsD vL v1 v2) (cs ++ [vL, v1, v2]) s vT vF → EnvAt w base E cs vL v1 v2 → Sp.SInv s → IntsC w A i.f4 →
  Calls Tryz.prog 46 #[.pointer (some ⟨g, 0, none⟩), instV i.f0 i.f1 i.f2 i.f3 (.slice A i.f4.length c)] w (BoolEnd (s.known E i) w)
theorem below_then2 {B B2 : Nat} {w W W' : World} (h : Below B w W) (h2 : Below B2 W W') (hB : B ≤ B2) : Below B w W' :=
  ⟨h2.os.trans h.os, h2.tape.trans h.tape, h2.output.trans h.output, Nat.le_trans h.size h2.size, fun k hk => (h2.block k (by omega)).trans (h.block k hk)⟩
def StepOk (E : Sp.Env) (i : SInst) : Prop := ∀ (k : Nat) (w : World) (base g : Nat) (cs : List Value) (vL v1 v2 : Value) (s : Sp.St) (vT vF : Value) (A : Option Addr) (c : Nat),
  StkAt w base g (RowsD vL v1 v2) (cs ++ [vL, v1, v2]) s vT vF → EnvAt w base E cs vL v1 v2 → Sp.SInvK k s → k ≤ 65536 → s.known E i = true → IntsC w A i.f4 →
  Calls Tryz.prog 47 #[.pointer (some ⟨g, 0, none⟩), instV i.f0 i.f1 i.f2 i.f3 (.slice A i.f4.length c)] w (StepEnd g base (RowsD vL v1 v2) (cs ++ [vL, v1, v2]) w vT vF (s.step E i)) ∧ Sp.SInvK (k + 1) (s.step E i)
/-- What check.Func leaves. -/
def FuncEnd (r : Int × Int) (w : World) (e : Ending) (w' : World) : Prop := e = .returned (.tuple #[.int .i64 r.1, .int .i64 r.2]) ∧ Below w.heap.size w w'
theorem sinv_begin (E : Sp.Env) (h : E.S.f1.length ≤ 8) : Sp.SInvK 0 (Sp.begin E) := by
  have e : ∀ i : Int, 0 ≤ i → i < ((Sp.begin E).F.length : Int) → rd_TFr (Sp.begin E).F i = ⟨2, ⟨[], E.S.f1⟩, 0, false⟩ := fun i h0 h1 => by
    have : i = 0 := by simp [Sp.begin] at h1; omega
    subst this; rfl
  refine ⟨⟨by simp [Sp.begin], by simp [Sp.begin], by simp [Sp.begin], fun i h0 h1 => ?_, fun i j h0 h1 h2 => ?_⟩, by simp [Sp.begin], by simp [Sp.begin], fun i h0 h1 => ?_⟩
  · rw [e i h0 h1]; simp [Sp.begin]
  · rw [e i h0 (by omega), e j (by omega) h2]; exact Int.le_refl _
  · rw [e i h0 h1]; exact ⟨by simp, h⟩
set_option maxRecDepth 100000 in
set_option maxHeartbeats 8000000 in
theorem check_Func_1 (M : SMod) (cs : List Value) (j : Int) (w : World) (hM : kMod.K w M cs) (n1 : M.f1.length ≤ 1000000) (n2 : M.f2.length ≤ 1000000) (hs : SmallTys M.f0) (h0 : 0 ≤ j) (h1 : j < M.f2.length) (t : STy) (ht : Sp.sigOf M ((M.f1.length : Int) + j) = some t) (lp : t.f0.length ≤ 1000000) (l8 : t.f1.length ≤ 8) (ll : (rd_TFun M.f2 j).f1.length ≤ 1000000) (lc : (rd_TFun M.f2 j).f2.length ≤ 65536)
    (hKn : ∀ k : Nat, k < (rd_TFun M.f2 j).f2.length → KnownOk ⟨M, t.f0 ++ (rd_TFun M.f2 j).f1, t⟩ (rd_TInst (rd_TFun M.f2 j).f2 (k : Int))) (hSt : ∀ k : Nat, k < (rd_TFun M.f2 j).f2.length → StepOk ⟨M, t.f0 ++ (rd_TFun M.f2 j).f1, t⟩ (rd_TInst (rd_TFun M.f2 j).f2 (k : Int))) :
    Calls Tryz.prog 21 #[.agg cs.toArray, .int .i64 j, .int .i64 1] w (FuncEnd (Sp.run ⟨M, t.f0 ++ (rd_TFun M.f2 j).f1, t⟩ true (rd_TFun M.f2 j).f2 0 (Sp.begin ⟨M, t.f0 ++ (rd_TFun M.f2 j).f1, t⟩)) w) := by
  obtain ⟨A0, c0, A1, c1, A2, c2, A3, c3, A4, c4, A5, c5, A6, c6, A7, c7, rfl, l0, g0, l1, g1, l2, g2, -⟩ := kMod_open hM
  obtain ⟨fd, B2, d2, B3, d3, rfl, e2, e3, e4, -, -, -, q5⟩ := at_TFun g2 j h0 h1
  have hlt := World.block_lt_of_cell? w _ e4
  have HNEW := Lib.hid (fun (_ : Unit) => check_New M _ j (w.alloc (.cells #[.slice A0 M.f0.length c0, .slice A1 M.f1.length c1, .slice (some fd) M.f2.length c2, .slice A3 M.f3.length c3, .slice A4 M.f4.length c4, .slice A5 M.f5.length c5, .slice A6 M.f6.length c6, .slice A7 M.f7.length c7] 37)) (Kd.K_below kMod (below_alloc (Below.refl _ _) _) hM) n1 n2 hs h0 h1 t ht lp ll)
  obtain ⟨E, hEq⟩ : ∃ E : Sp.Env, E = ⟨M, t.f0 ++ (rd_TFun M.f2 j).f1, t⟩ := ⟨_, rfl⟩
  obtain ⟨code, hcd⟩ : ∃ code, code = (rd_TFun M.f2 j).f2 := ⟨_, rfl⟩
  rw [← hEq] at HNEW hKn hSt ⊢
  rw [← hcd] at q5 e4 hKn hSt lc ⊢
  have hES : E.S.f1 = t.f1 := by rw [hEq]
  have w3 : Sp.within j 0 ((M.f2.length : Int) - 1) = true := by simp [Sp.within]; omega
  have HSIG := Lib.hid (show E.S.f1.length ≤ 8 by rw [hES]; exact l8)
  have HE4 := Lib.hid e4; have HQ5 := Lib.hid q5; have HKN := Lib.hid hKn; have HST := Lib.hid hSt; have HLC := Lib.hid lc
  clear e2 e3 e4 q5 g0 g1 g2 hM hs ht lp ll n1 l0 l1 l2 hcd hEq hES l8 hKn hSt
  go_enter Tryz.func21, Tryz.ntmps21
  go_wp2_with (first | ((go_at_call 43); (refine (check_there _ _ _).mono ?_); rintro e w' ⟨rfl, rfl⟩) | ((go_at_call 44); (with_reducible refine (HNEW.out ()).mono ?_); rintro e W ⟨g, vL, v1, v2, vT, vF, rfl, hb, hE, hS⟩; have x0 := (hb.block w.heap.size (by simp)).trans (heap_alloc_new w _); have y2 := (blk_cell x0 2).trans rfl; have hsz : w.heap.size + 1 ≤ W.heap.size := (by have := hb.size; simpa using this); have HW := Lib.hid (below_then (below_alloc (Below.refl _ _) _) (by simp) hb : Below w.heap.size w W); have e4 := (HW.out.cell (p := ⟨(fd.add (j.toNat * 3)).block, (fd.add (j.toNat * 3)).off + 2, none⟩) hlt).trans HE4.out; have HX0 := Lib.hid x0; have HE := Lib.hid hE; have HS := Lib.hid hS; clear hb hE hS x0))
  go_loopw [35] (fun i wr => ∃ (k : Nat) (s : Sp.St) (vT vF : Value), k ≤ code.length ∧ i = .int .i64 k ∧ Hid (StkAt wr (w.heap.size + 1) g (RowsD vL v1 v2) ([.slice A0 M.f0.length c0, .slice A1 M.f1.length c1, .slice (some fd) M.f2.length c2, .slice A3 M.f3.length c3, .slice A4 M.f4.length c4, .slice A5 M.f5.length c5, .slice A6 M.f6.length c6, .slice A7 M.f7.length c7] ++ [vL, v1, v2]) s vT vF) ∧ Hid (EnvAt wr (w.heap.size + 1) E [.slice A0 M.f0.length c0, .slice A1 M.f1.length c1, .slice (some fd) M.f2.length c2, .slice A3 M.f3.length c3, .slice A4 M.f4.length c4, .slice A5 M.f5.length c5, .slice A6 M.f6.length c6, .slice A7 M.f7.length c7] vL v1 v2) ∧ Hid (Sp.SInvK k s) ∧ Hid (s.bad = false) ∧ Hid (Sp.run E true code 0 (Sp.begin E) = Sp.run E true (code.drop k) k s) ∧ Hid (Below w.heap.size w wr)) (fun i _ => code.length - (intOf i).toNat)
  case atStart =>
    have hse : (w.alloc (.cells #[.slice A0 M.f0.length c0, .slice A1 M.f1.length c1, .slice (some fd) M.f2.length c2, .slice A3 M.f3.length c3, .slice A4 M.f4.length c4, .slice A5 M.f5.length c5, .slice A6 M.f6.length c6, .slice A7 M.f7.length c7] 37)).heap.size = w.heap.size + 1 := by simp
    have h1 := HS.out; have h2 := HE.out
    rw [hse] at h1 h2
    exact ⟨0, Sp.begin E, vT, vF, Nat.zero_le _, rfl, Lib.hid h1, Lib.hid h2, Lib.hid (sinv_begin E HSIG.out), Lib.hid rfl, Lib.hid rfl, HW⟩
  case round =>
    obtain ⟨k, s, vT1, vF1, hk, rfl, HS1, HE1, HI1, HBD, HRUN, HB1⟩ := hrel
    clear HS HE HX0 y2 e4
    by_cases hlt2 : k < code.length
    · obtain ⟨ad, A9, c9, hA, i0, i1, i2, i3, i4, -, q4⟩ := at_TInst (Kd.C_below HQ5.out HB1.out) (k : Int) (by omega) (by omega)
      subst hA
      rw [Int.toNat_natCast] at i0 i1 i2 i3 i4
      have HRD := Lib.hid (Sp.run_drop E true code k s hlt2)
      have KN := Lib.hid (HKN.out k hlt2); have ST := Lib.hid (HST.out k hlt2)
      obtain ⟨x, hx⟩ : ∃ x, x = rd_TInst code (k : Int) := ⟨_, rfl⟩
      rw [← hx] at i0 i1 i2 i3 i4 q4 HRD KN ST
      clear hx
      have HQ4 := Lib.hid q4; clear q4
      obtain ⟨bk, hbk⟩ : ∃ bk, bk = s.known E x := ⟨_, rfl⟩
      obtain ⟨bs, hbs⟩ : ∃ bs, bs = (s.step E x).bad := ⟨_, rfl⟩
      obtain ⟨br, hbr⟩ : ∃ br, br = Sp.instRich x := ⟨_, rfl⟩
      have HBK := Lib.hid hbk; have HBS := Lib.hid hbs; have HBR := Lib.hid hbr; clear hbk hbs hbr
      have b0 : StkAt (wr.alloc (instBox x.f0 x.f1 x.f2 x.f3 (.slice A9 x.f4.length c9))) (w.heap.size + 1) g (RowsD vL v1 v2) ([.slice A0 M.f0.length c0, .slice A1 M.f1.length c1, .slice (some fd) M.f2.length c2, .slice A3 M.f3.length c3, .slice A4 M.f4.length c4, .slice A5 M.f5.length c5, .slice A6 M.f6.length c6, .slice A7 M.f7.length c7] ++ [vL, v1, v2]) s vT1 vF1 := stk_alloc HS1.out _
      have be0 := env_below HE1.out (below_alloc (Below.refl _ _) (instBox x.f0 x.f1 x.f2 x.f3 (.slice A9 x.f4.length c9)))
      have bx0 := heap_alloc_new wr (instBox x.f0 x.f1 x.f2 x.f3 (.slice A9 x.f4.length c9))
      have B0 := Lib.hid b0; have BE0 := Lib.hid be0; have BX0 := Lib.hid bx0; clear b0 be0 bx0
      cases br with
      | true =>
        have HWHY := Lib.hid (show s.whyNot E true x = 24 by unfold Sp.St.whyNot; rw [← HBR.out]; rfl)
        go_wp2_with (first | ((go_at_call 45); (refine (check_rich x.f0 x.f1 x.f2 x.f3 (.slice A9 x.f4.length c9) ⟨_, _, _, rfl⟩ _).mono ?_); rintro e wa ⟨rfl, hba⟩; have nx := (hba.block wr.heap.size (by simp)).trans BX0.out; have j0 := (blk_cell nx 0).trans rfl; have j1 := (blk_cell nx 1).trans rfl; have j2 := (blk_cell nx 2).trans rfl; have j3 := (blk_cell nx 3).trans rfl; have j4 := (blk_cell nx 4).trans rfl; have HBA := Lib.hid hba; have NX := Lib.hid nx; clear hba nx; rw [show Sp.richI x.f0 x.f1 = _ from HBR.out.symm]) | ((go_at_call 46); (refine (KN.out _ _ g _ vL v1 v2 s vT1 vF1 A9 c9 (stk_below B0.out HBA.out) (env_below BE0.out HBA.out) HI1.out.1 (Kd.C_below (Kd.C_alloc HQ4.out _) HBA.out)).mono ?_); rintro e wb ⟨rfl, hbb⟩; have nx2 := (hbb.block wr.heap.size (blk_lt NX.out)).trans NX.out; have k0 := (blk_cell nx2 0).trans rfl; have k1 := (blk_cell nx2 1).trans rfl; have k2 := (blk_cell nx2 2).trans rfl; have k3 := (blk_cell nx2 3).trans rfl; have k4 := (blk_cell nx2 4).trans rfl; have HBB := Lib.hid hbb; have NX2 := Lib.hid nx2; clear hbb nx2; rw [← HBK.out]) | ((go_at_call 47); (refine ((ST.out k _ _ g _ vL v1 v2 s vT1 vF1 A9 c9 (stk_below (stk_below B0.out HBA.out) HBB.out) (env_below (env_below BE0.out HBA.out) HBB.out) HI1.out (by have := HLC.out; omega) HBK.out.symm (Kd.C_below (Kd.C_below (Kd.C_alloc HQ4.out _) HBA.out) HBB.out)).1).mono ?_); rintro e wc ⟨rfl, vT2, vF2, m2, hS2⟩; have M2 := Lib.hid m2; have S2 := Lib.hid hS2; clear m2 hS2; rw [← HBS.out]))
        have hrun : Sp.run E true code 0 (Sp.begin E) = ((k : Int), 24) := by
          rw [HRUN.out, HRD.out, if_neg (by rw [HWHY.out]; decide), HWHY.out]
        rw [hrun]
        go_ret2
        exact ⟨rfl, (below_then (below_then HB1.out HB1.out.size (below_alloc (Below.refl _ _) _)) (Nat.le_trans HB1.out.size (by simp)) HBA.out)⟩
      | false =>
        cases bk with
        | false =>
          have HWHY := Lib.hid (show s.whyNot E true x = 23 by unfold Sp.St.whyNot; rw [← HBK.out]; rw [← HBR.out]; rfl)
          go_wp2_with (first | ((go_at_call 45); (refine (check_rich x.f0 x.f1 x.f2 x.f3 (.slice A9 x.f4.length c9) ⟨_, _, _, rfl⟩ _).mono ?_); rintro e wa ⟨rfl, hba⟩; have nx := (hba.block wr.heap.size (by simp)).trans BX0.out; have j0 := (blk_cell nx 0).trans rfl; have j1 := (blk_cell nx 1).trans rfl; have j2 := (blk_cell nx 2).trans rfl; have j3 := (blk_cell nx 3).trans rfl; have j4 := (blk_cell nx 4).trans rfl; have HBA := Lib.hid hba; have NX := Lib.hid nx; clear hba nx; rw [show Sp.richI x.f0 x.f1 = _ from HBR.out.symm]) | ((go_at_call 46); (refine (KN.out _ _ g _ vL v1 v2 s vT1 vF1 A9 c9 (stk_below B0.out HBA.out) (env_below BE0.out HBA.out) HI1.out.1 (Kd.C_below (Kd.C_alloc HQ4.out _) HBA.out)).mono ?_); rintro e wb ⟨rfl, hbb⟩; have nx2 := (hbb.block wr.heap.size (blk_lt NX.out)).trans NX.out; have k0 := (blk_cell nx2 0).trans rfl; have k1 := (blk_cell nx2 1).trans rfl; have k2 := (blk_cell nx2 2).trans rfl; have k3 := (blk_cell nx2 3).trans rfl; have k4 := (blk_cell nx2 4).trans rfl; have HBB := Lib.hid hbb; have NX2 := Lib.hid nx2; clear hbb nx2; rw [← HBK.out]) | ((go_at_call 47); (refine ((ST.out k _ _ g _ vL v1 v2 s vT1 vF1 A9 c9 (stk_below (stk_below B0.out HBA.out) HBB.out) (env_below (env_below BE0.out HBA.out) HBB.out) HI1.out (by have := HLC.out; omega) HBK.out.symm (Kd.C_below (Kd.C_below (Kd.C_alloc HQ4.out _) HBA.out) HBB.out)).1).mono ?_); rintro e wc ⟨rfl, vT2, vF2, m2, hS2⟩; have M2 := Lib.hid m2; have S2 := Lib.hid hS2; clear m2 hS2; rw [← HBS.out]))
          have hrun : Sp.run E true code 0 (Sp.begin E) = ((k : Int), 23) := by
            rw [HRUN.out, HRD.out, if_neg (by rw [HWHY.out]; decide), HWHY.out]
          rw [hrun]
          go_ret2
          exact ⟨rfl, below_then (below_then (below_then HB1.out HB1.out.size (below_alloc (Below.refl _ _) _)) (Nat.le_trans HB1.out.size (by simp)) HBA.out) (Nat.le_trans HB1.out.size (by first | (have := HBA.out.size; simp at this; omega) | simp)) HBB.out⟩
        | true =>
          cases bs with
          | true =>
            have HWHY := Lib.hid (show s.whyNot E true x = 14 by unfold Sp.St.whyNot; rw [← HBK.out, ← HBS.out]; rw [← HBR.out]; rfl)
            go_wp2_with (first | ((go_at_call 45); (refine (check_rich x.f0 x.f1 x.f2 x.f3 (.slice A9 x.f4.length c9) ⟨_, _, _, rfl⟩ _).mono ?_); rintro e wa ⟨rfl, hba⟩; have nx := (hba.block wr.heap.size (by simp)).trans BX0.out; have j0 := (blk_cell nx 0).trans rfl; have j1 := (blk_cell nx 1).trans rfl; have j2 := (blk_cell nx 2).trans rfl; have j3 := (blk_cell nx 3).trans rfl; have j4 := (blk_cell nx 4).trans rfl; have HBA := Lib.hid hba; have NX := Lib.hid nx; clear hba nx; rw [show Sp.richI x.f0 x.f1 = _ from HBR.out.symm]) | ((go_at_call 46); (refine (KN.out _ _ g _ vL v1 v2 s vT1 vF1 A9 c9 (stk_below B0.out HBA.out) (env_below BE0.out HBA.out) HI1.out.1 (Kd.C_below (Kd.C_alloc HQ4.out _) HBA.out)).mono ?_); rintro e wb ⟨rfl, hbb⟩; have nx2 := (hbb.block wr.heap.size (blk_lt NX.out)).trans NX.out; have k0 := (blk_cell nx2 0).trans rfl; have k1 := (blk_cell nx2 1).trans rfl; have k2 := (blk_cell nx2 2).trans rfl; have k3 := (blk_cell nx2 3).trans rfl; have k4 := (blk_cell nx2 4).trans rfl; have HBB := Lib.hid hbb; have NX2 := Lib.hid nx2; clear hbb nx2; rw [← HBK.out]) | ((go_at_call 47); (refine ((ST.out k _ _ g _ vL v1 v2 s vT1 vF1 A9 c9 (stk_below (stk_below B0.out HBA.out) HBB.out) (env_below (env_below BE0.out HBA.out) HBB.out) HI1.out (by have := HLC.out; omega) HBK.out.symm (Kd.C_below (Kd.C_below (Kd.C_alloc HQ4.out _) HBA.out) HBB.out)).1).mono ?_); rintro e wc ⟨rfl, vT2, vF2, m2, hS2⟩; have M2 := Lib.hid m2; have S2 := Lib.hid hS2; clear m2 hS2; rw [← HBS.out]))
            have hrun : Sp.run E true code 0 (Sp.begin E) = ((k : Int), 14) := by
              rw [HRUN.out, HRD.out, if_neg (by rw [HWHY.out]; decide), HWHY.out]
            rw [hrun]
            go_ret2
            exact ⟨rfl, below_then2 (below_then (below_then (below_then HB1.out HB1.out.size (below_alloc (Below.refl _ _) _)) (Nat.le_trans HB1.out.size (by simp)) HBA.out) (Nat.le_trans HB1.out.size (by first | (have := HBA.out.size; simp at this; omega) | simp)) HBB.out) (below_mv (stk_below (stk_below B0.out HBA.out) HBB.out) M2.out (base_le (env_below (env_below BE0.out HBA.out) HBB.out))) (by omega)⟩
          | false =>
            have HWHY := Lib.hid (show s.whyNot E true x = 0 by unfold Sp.St.whyNot; rw [← HBK.out, ← HBS.out]; rw [← HBR.out]; rfl)
            go_wp2_with (first | ((go_at_call 45); (refine (check_rich x.f0 x.f1 x.f2 x.f3 (.slice A9 x.f4.length c9) ⟨_, _, _, rfl⟩ _).mono ?_); rintro e wa ⟨rfl, hba⟩; have nx := (hba.block wr.heap.size (by simp)).trans BX0.out; have j0 := (blk_cell nx 0).trans rfl; have j1 := (blk_cell nx 1).trans rfl; have j2 := (blk_cell nx 2).trans rfl; have j3 := (blk_cell nx 3).trans rfl; have j4 := (blk_cell nx 4).trans rfl; have HBA := Lib.hid hba; have NX := Lib.hid nx; clear hba nx; rw [show Sp.richI x.f0 x.f1 = _ from HBR.out.symm]) | ((go_at_call 46); (refine (KN.out _ _ g _ vL v1 v2 s vT1 vF1 A9 c9 (stk_below B0.out HBA.out) (env_below BE0.out HBA.out) HI1.out.1 (Kd.C_below (Kd.C_alloc HQ4.out _) HBA.out)).mono ?_); rintro e wb ⟨rfl, hbb⟩; have nx2 := (hbb.block wr.heap.size (blk_lt NX.out)).trans NX.out; have k0 := (blk_cell nx2 0).trans rfl; have k1 := (blk_cell nx2 1).trans rfl; have k2 := (blk_cell nx2 2).trans rfl; have k3 := (blk_cell nx2 3).trans rfl; have k4 := (blk_cell nx2 4).trans rfl; have HBB := Lib.hid hbb; have NX2 := Lib.hid nx2; clear hbb nx2; rw [← HBK.out]) | ((go_at_call 47); (refine ((ST.out k _ _ g _ vL v1 v2 s vT1 vF1 A9 c9 (stk_below (stk_below B0.out HBA.out) HBB.out) (env_below (env_below BE0.out HBA.out) HBB.out) HI1.out (by have := HLC.out; omega) HBK.out.symm (Kd.C_below (Kd.C_below (Kd.C_alloc HQ4.out _) HBA.out) HBB.out)).1).mono ?_); rintro e wc ⟨rfl, vT2, vF2, m2, hS2⟩; have M2 := Lib.hid m2; have S2 := Lib.hid hS2; clear m2 hS2; rw [← HBS.out]))
            go_roundw
            case rel => exact ⟨k + 1, s.step E x, vT2, vF2, by omega, by go_num, S2, Lib.hid (env_mv (stk_below (stk_below B0.out HBA.out) HBB.out) M2.out (env_below (env_below BE0.out HBA.out) HBB.out)), Lib.hid (ST.out k _ _ g _ vL v1 v2 s vT1 vF1 A9 c9 (stk_below (stk_below B0.out HBA.out) HBB.out) (env_below (env_below BE0.out HBA.out) HBB.out) HI1.out (by have := HLC.out; omega) HBK.out.symm (Kd.C_below (Kd.C_below (Kd.C_alloc HQ4.out _) HBA.out) HBB.out)).2, Lib.hid HBS.out.symm, Lib.hid (by rw [HRUN.out, HRD.out, if_pos HWHY.out]), Lib.hid (below_then2 (below_then (below_then (below_then HB1.out HB1.out.size (below_alloc (Below.refl _ _) _)) (Nat.le_trans HB1.out.size (by simp)) HBA.out) (Nat.le_trans HB1.out.size (by first | (have := HBA.out.size; simp at this; omega) | simp)) HBB.out) (below_mv (stk_below (stk_below B0.out HBA.out) HBB.out) M2.out (base_le (env_below (env_below BE0.out HBA.out) HBB.out))) (by omega))⟩
            case measure => simp [intOf]; omega
    · obtain rfl : k = code.length := by omega
      have hrun := Lib.hid (show Sp.run E true code 0 (Sp.begin E) = (-1, 0) by rw [HRUN.out, List.drop_length]; rfl)
      go_wp2
      go_ret2
      exact ⟨by rw [hrun.out]; rfl, HB1.out⟩
set_option maxRecDepth 100000 in
set_option maxHeartbeats 8000000 in
theorem check_Func_2 (M : SMod) (cs : List Value) (j : Int) (w : World) (hM : kMod.K w M cs) (n1 : M.f1.length ≤ 1000000) (n2 : M.f2.length ≤ 1000000) (hs : SmallTys M.f0) (h0 : 0 ≤ j) (h1 : j < M.f2.length) (t : STy) (ht : Sp.sigOf M ((M.f1.length : Int) + j) = some t) (lp : t.f0.length ≤ 1000000) (l8 : t.f1.length ≤ 8) (ll : (rd_TFun M.f2 j).f1.length ≤ 1000000) (lc : (rd_TFun M.f2 j).f2.length ≤ 65536)
    (hKn : ∀ k : Nat, k < (rd_TFun M.f2 j).f2.length → KnownOk ⟨M, t.f0 ++ (rd_TFun M.f2 j).f1, t⟩ (rd_TInst (rd_TFun M.f2 j).f2 (k : Int))) (hSt : ∀ k : Nat, k < (rd_TFun M.f2 j).f2.length → StepOk ⟨M, t.f0 ++ (rd_TFun M.f2 j).f1, t⟩ (rd_TInst (rd_TFun M.f2 j).f2 (k : Int))) :
    Calls Tryz.prog 21 #[.agg cs.toArray, .int .i64 j, .int .i64 2] w (FuncEnd (Sp.run ⟨M, t.f0 ++ (rd_TFun M.f2 j).f1, t⟩ false (rd_TFun M.f2 j).f2 0 (Sp.begin ⟨M, t.f0 ++ (rd_TFun M.f2 j).f1, t⟩)) w) := by
  obtain ⟨A0, c0, A1, c1, A2, c2, A3, c3, A4, c4, A5, c5, A6, c6, A7, c7, rfl, l0, g0, l1, g1, l2, g2, -⟩ := kMod_open hM
  obtain ⟨fd, B2, d2, B3, d3, rfl, e2, e3, e4, -, -, -, q5⟩ := at_TFun g2 j h0 h1
  have hlt := World.block_lt_of_cell? w _ e4
  have HNEW := Lib.hid (fun (_ : Unit) => check_New M _ j (w.alloc (.cells #[.slice A0 M.f0.length c0, .slice A1 M.f1.length c1, .slice (some fd) M.f2.length c2, .slice A3 M.f3.length c3, .slice A4 M.f4.length c4, .slice A5 M.f5.length c5, .slice A6 M.f6.length c6, .slice A7 M.f7.length c7] 37)) (Kd.K_below kMod (below_alloc (Below.refl _ _) _) hM) n1 n2 hs h0 h1 t ht lp ll)
  obtain ⟨E, hEq⟩ : ∃ E : Sp.Env, E = ⟨M, t.f0 ++ (rd_TFun M.f2 j).f1, t⟩ := ⟨_, rfl⟩
  obtain ⟨code, hcd⟩ : ∃ code, code = (rd_TFun M.f2 j).f2 := ⟨_, rfl⟩
  rw [← hEq] at HNEW hKn hSt ⊢
  rw [← hcd] at q5 e4 hKn hSt lc ⊢
  have hES : E.S.f1 = t.f1 := by rw [hEq]
  have w3 : Sp.within j 0 ((M.f2.length : Int) - 1) = true := by simp [Sp.within]; omega
  have HSIG := Lib.hid (show E.S.f1.length ≤ 8 by rw [hES]; exact l8)
  have HE4 := Lib.hid e4; have HQ5 := Lib.hid q5; have HKN := Lib.hid hKn; have HST := Lib.hid hSt; have HLC := Lib.hid lc
  clear e2 e3 e4 q5 g0 g1 g2 hM hs ht lp ll n1 l0 l1 l2 hcd hEq hES l8 hKn hSt
  go_enter Tryz.func21, Tryz.ntmps21
  go_wp2_with (first | ((go_at_call 43); (refine (check_there _ _ _).mono ?_); rintro e w' ⟨rfl, rfl⟩) | ((go_at_call 44); (with_reducible refine (HNEW.out ()).mono ?_); rintro e W ⟨g, vL, v1, v2, vT, vF, rfl, hb, hE, hS⟩; have x0 := (hb.block w.heap.size (by simp)).trans (heap_alloc_new w _); have y2 := (blk_cell x0 2).trans rfl; have hsz : w.heap.size + 1 ≤ W.heap.size := (by have := hb.size; simpa using this); have HW := Lib.hid (below_then (below_alloc (Below.refl _ _) _) (by simp) hb : Below w.heap.size w W); have e4 := (HW.out.cell (p := ⟨(fd.add (j.toNat * 3)).block, (fd.add (j.toNat * 3)).off + 2, none⟩) hlt).trans HE4.out; have HX0 := Lib.hid x0; have HE := Lib.hid hE; have HS := Lib.hid hS; clear hb hE hS x0))
  go_loopw [35] (fun i wr => ∃ (k : Nat) (s : Sp.St) (vT vF : Value), k ≤ code.length ∧ i = .int .i64 k ∧ Hid (StkAt wr (w.heap.size + 1) g (RowsD vL v1 v2) ([.slice A0 M.f0.length c0, .slice A1 M.f1.length c1, .slice (some fd) M.f2.length c2, .slice A3 M.f3.length c3, .slice A4 M.f4.length c4, .slice A5 M.f5.length c5, .slice A6 M.f6.length c6, .slice A7 M.f7.length c7] ++ [vL, v1, v2]) s vT vF) ∧ Hid (EnvAt wr (w.heap.size + 1) E [.slice A0 M.f0.length c0, .slice A1 M.f1.length c1, .slice (some fd) M.f2.length c2, .slice A3 M.f3.length c3, .slice A4 M.f4.length c4, .slice A5 M.f5.length c5, .slice A6 M.f6.length c6, .slice A7 M.f7.length c7] vL v1 v2) ∧ Hid (Sp.SInvK k s) ∧ Hid (s.bad = false) ∧ Hid (Sp.run E false code 0 (Sp.begin E) = Sp.run E false (code.drop k) k s) ∧ Hid (Below w.heap.size w wr)) (fun i _ => code.length - (intOf i).toNat)
  case atStart =>
    have hse : (w.alloc (.cells #[.slice A0 M.f0.length c0, .slice A1 M.f1.length c1, .slice (some fd) M.f2.length c2, .slice A3 M.f3.length c3, .slice A4 M.f4.length c4, .slice A5 M.f5.length c5, .slice A6 M.f6.length c6, .slice A7 M.f7.length c7] 37)).heap.size = w.heap.size + 1 := by simp
    have h1 := HS.out; have h2 := HE.out
    rw [hse] at h1 h2
    exact ⟨0, Sp.begin E, vT, vF, Nat.zero_le _, rfl, Lib.hid h1, Lib.hid h2, Lib.hid (sinv_begin E HSIG.out), Lib.hid rfl, Lib.hid rfl, HW⟩
  case round =>
    obtain ⟨k, s, vT1, vF1, hk, rfl, HS1, HE1, HI1, HBD, HRUN, HB1⟩ := hrel
    clear HS HE HX0 y2 e4
    by_cases hlt2 : k < code.length
    · obtain ⟨ad, A9, c9, hA, i0, i1, i2, i3, i4, -, q4⟩ := at_TInst (Kd.C_below HQ5.out HB1.out) (k : Int) (by omega) (by omega)
      subst hA
      rw [Int.toNat_natCast] at i0 i1 i2 i3 i4
      have HRD := Lib.hid (Sp.run_drop E false code k s hlt2)
      have KN := Lib.hid (HKN.out k hlt2); have ST := Lib.hid (HST.out k hlt2)
      obtain ⟨x, hx⟩ : ∃ x, x = rd_TInst code (k : Int) := ⟨_, rfl⟩
      rw [← hx] at i0 i1 i2 i3 i4 q4 HRD KN ST
      clear hx
      have HQ4 := Lib.hid q4; clear q4
      obtain ⟨bk, hbk⟩ : ∃ bk, bk = s.known E x := ⟨_, rfl⟩
      obtain ⟨bs, hbs⟩ : ∃ bs, bs = (s.step E x).bad := ⟨_, rfl⟩
      obtain ⟨br, hbr⟩ : ∃ br, br = Sp.instRich x := ⟨_, rfl⟩
      have HBK := Lib.hid hbk; have HBS := Lib.hid hbs; have HBR := Lib.hid hbr; clear hbk hbs hbr
      have b0 : StkAt (wr.alloc (instBox x.f0 x.f1 x.f2 x.f3 (.slice A9 x.f4.length c9))) (w.heap.size + 1) g (RowsD vL v1 v2) ([.slice A0 M.f0.length c0, .slice A1 M.f1.length c1, .slice (some fd) M.f2.length c2, .slice A3 M.f3.length c3, .slice A4 M.f4.length c4, .slice A5 M.f5.length c5, .slice A6 M.f6.length c6, .slice A7 M.f7.length c7] ++ [vL, v1, v2]) s vT1 vF1 := stk_alloc HS1.out _
      have be0 := env_below HE1.out (below_alloc (Below.refl _ _) (instBox x.f0 x.f1 x.f2 x.f3 (.slice A9 x.f4.length c9)))
      have bx0 := heap_alloc_new wr (instBox x.f0 x.f1 x.f2 x.f3 (.slice A9 x.f4.length c9))
      have B0 := Lib.hid b0; have BE0 := Lib.hid be0; have BX0 := Lib.hid bx0; clear b0 be0 bx0
      cases bk with
      | false =>
        have HWHY := Lib.hid (show s.whyNot E false x = 23 by unfold Sp.St.whyNot; rw [← HBK.out]; rfl)
        go_wp2_with (first | ((go_at_call 46); (refine (KN.out _ _ g _ vL v1 v2 s vT1 vF1 A9 c9 B0.out BE0.out HI1.out.1 (Kd.C_alloc HQ4.out _)).mono ?_); rintro e wb ⟨rfl, hbb⟩; have nx2 := (hbb.block wr.heap.size (blk_lt BX0.out)).trans BX0.out; have k0 := (blk_cell nx2 0).trans rfl; have k1 := (blk_cell nx2 1).trans rfl; have k2 := (blk_cell nx2 2).trans rfl; have k3 := (blk_cell nx2 3).trans rfl; have k4 := (blk_cell nx2 4).trans rfl; have HBB := Lib.hid hbb; have NX2 := Lib.hid nx2; clear hbb nx2; rw [← HBK.out]) | ((go_at_call 47); (refine ((ST.out k _ _ g _ vL v1 v2 s vT1 vF1 A9 c9 (stk_below B0.out HBB.out) (env_below BE0.out HBB.out) HI1.out (by have := HLC.out; omega) HBK.out.symm (Kd.C_below (Kd.C_alloc HQ4.out _) HBB.out)).1).mono ?_); rintro e wc ⟨rfl, vT2, vF2, m2, hS2⟩; have M2 := Lib.hid m2; have S2 := Lib.hid hS2; clear m2 hS2; rw [← HBS.out]))
        have hrun : Sp.run E false code 0 (Sp.begin E) = ((k : Int), 23) := by
          rw [HRUN.out, HRD.out, if_neg (by rw [HWHY.out]; decide), HWHY.out]
        rw [hrun]
        go_ret2
        exact ⟨rfl, below_then (below_then HB1.out HB1.out.size (below_alloc (Below.refl _ _) _)) (Nat.le_trans HB1.out.size (by first | (have := HBA.out.size; simp at this; omega) | simp)) HBB.out⟩
      | true =>
        cases bs with
        | true =>
          have HWHY := Lib.hid (show s.whyNot E false x = 14 by unfold Sp.St.whyNot; rw [← HBK.out, ← HBS.out]; rfl)
          go_wp2_with (first | ((go_at_call 46); (refine (KN.out _ _ g _ vL v1 v2 s vT1 vF1 A9 c9 B0.out BE0.out HI1.out.1 (Kd.C_alloc HQ4.out _)).mono ?_); rintro e wb ⟨rfl, hbb⟩; have nx2 := (hbb.block wr.heap.size (blk_lt BX0.out)).trans BX0.out; have k0 := (blk_cell nx2 0).trans rfl; have k1 := (blk_cell nx2 1).trans rfl; have k2 := (blk_cell nx2 2).trans rfl; have k3 := (blk_cell nx2 3).trans rfl; have k4 := (blk_cell nx2 4).trans rfl; have HBB := Lib.hid hbb; have NX2 := Lib.hid nx2; clear hbb nx2; rw [← HBK.out]) | ((go_at_call 47); (refine ((ST.out k _ _ g _ vL v1 v2 s vT1 vF1 A9 c9 (stk_below B0.out HBB.out) (env_below BE0.out HBB.out) HI1.out (by have := HLC.out; omega) HBK.out.symm (Kd.C_below (Kd.C_alloc HQ4.out _) HBB.out)).1).mono ?_); rintro e wc ⟨rfl, vT2, vF2, m2, hS2⟩; have M2 := Lib.hid m2; have S2 := Lib.hid hS2; clear m2 hS2; rw [← HBS.out]))
          have hrun : Sp.run E false code 0 (Sp.begin E) = ((k : Int), 14) := by
            rw [HRUN.out, HRD.out, if_neg (by rw [HWHY.out]; decide), HWHY.out]
          rw [hrun]
          go_ret2
          exact ⟨rfl, below_then2 (below_then (below_then HB1.out HB1.out.size (below_alloc (Below.refl _ _) _)) (Nat.le_trans HB1.out.size (by first | (have := HBA.out.size; simp at this; omega) | simp)) HBB.out) (below_mv (stk_below B0.out HBB.out) M2.out (base_le (env_below BE0.out HBB.out))) (by omega)⟩
        | false =>
          have HWHY := Lib.hid (show s.whyNot E false x = 0 by unfold Sp.St.whyNot; rw [← HBK.out, ← HBS.out]; rfl)
          go_wp2_with (first | ((go_at_call 46); (refine (KN.out _ _ g _ vL v1 v2 s vT1 vF1 A9 c9 B0.out BE0.out HI1.out.1 (Kd.C_alloc HQ4.out _)).mono ?_); rintro e wb ⟨rfl, hbb⟩; have nx2 := (hbb.block wr.heap.size (blk_lt BX0.out)).trans BX0.out; have k0 := (blk_cell nx2 0).trans rfl; have k1 := (blk_cell nx2 1).trans rfl; have k2 := (blk_cell nx2 2).trans rfl; have k3 := (blk_cell nx2 3).trans rfl; have k4 := (blk_cell nx2 4).trans rfl; have HBB := Lib.hid hbb; have NX2 := Lib.hid nx2; clear hbb nx2; rw [← HBK.out]) | ((go_at_call 47); (refine ((ST.out k _ _ g _ vL v1 v2 s vT1 vF1 A9 c9 (stk_below B0.out HBB.out) (env_below BE0.out HBB.out) HI1.out (by have := HLC.out; omega) HBK.out.symm (Kd.C_below (Kd.C_alloc HQ4.out _) HBB.out)).1).mono ?_); rintro e wc ⟨rfl, vT2, vF2, m2, hS2⟩; have M2 := Lib.hid m2; have S2 := Lib.hid hS2; clear m2 hS2; rw [← HBS.out]))
          go_roundw
          case rel => exact ⟨k + 1, s.step E x, vT2, vF2, by omega, by go_num, S2, Lib.hid (env_mv (stk_below B0.out HBB.out) M2.out (env_below BE0.out HBB.out)), Lib.hid (ST.out k _ _ g _ vL v1 v2 s vT1 vF1 A9 c9 (stk_below B0.out HBB.out) (env_below BE0.out HBB.out) HI1.out (by have := HLC.out; omega) HBK.out.symm (Kd.C_below (Kd.C_alloc HQ4.out _) HBB.out)).2, Lib.hid HBS.out.symm, Lib.hid (by rw [HRUN.out, HRD.out, if_pos HWHY.out]), Lib.hid (below_then2 (below_then (below_then HB1.out HB1.out.size (below_alloc (Below.refl _ _) _)) (Nat.le_trans HB1.out.size (by first | (have := HBA.out.size; simp at this; omega) | simp)) HBB.out) (below_mv (stk_below B0.out HBB.out) M2.out (base_le (env_below BE0.out HBB.out))) (by omega))⟩
          case measure => simp [intOf]; omega
    · obtain rfl : k = code.length := by omega
      have hrun := Lib.hid (show Sp.run E false code 0 (Sp.begin E) = (-1, 0) by rw [HRUN.out, List.drop_length]; rfl)
      go_wp2
      go_ret2
      exact ⟨by rw [hrun.out]; rfl, HB1.out⟩
end Go.Proofs.YthehihjcpiadgaaGreat
end
