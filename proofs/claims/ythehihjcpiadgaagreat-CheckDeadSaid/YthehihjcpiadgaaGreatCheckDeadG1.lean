/- Lemmas for the row of CheckDead, part 1: what its functions do. -/
import Derived.RangeFuncBox
import Derived.RangeFuncLeaves
import Derived.Shelf.Abstract
import Derived.WalkKit
import Derived.OwnWalkIn
import Derived.TacticsInMore
import Derived.LoopNIn
import Derived.LoopIn
import Derived.Lib.Hide
import Derived.Test.YthehihjcpiadgaaGreatProg
import Derived.Deep.QuietTactic
import Derived.BigQuiet
import Derived.Lib.SliceRun
import Derived.Deep.RegionHeld3
import Derived.Deep.Light
import Derived.BigRegion
import Derived.Below
import Derived.Deep.Draws
import Derived.Deep.AppendLies
import Derived.Maps.AppendAt
import Derived.OwnWalk
import Derived.Laws.BytesArg
import Derived.Laws.MakeOwn
import Derived.Laws.OwnMore
import Derived.Deep.OwnRows
import Derived.Tactics
import Derived.Lib.ConvBytes
import Derived.Laws.Slices
import Derived.KernelRfl
import Derived.RowKit3
import Derived.Deep.LoopGhost
import Derived.WideLaws
import Derived.Deep.DeepCutAuto
import Derived.Deep.CutBlock
import Derived.Laws.Rows
import Derived.Lib.AppendStr
import Derived.ArgAppend
import Derived.Laws.IdiomCopy
import Derived.OrdersHeld
import Derived.Laws.BitsLemmas
import Derived.RowKit
import Derived.Test.YthehihjcpiadgaaGreatCheckDeadG0
section
namespace Go.Proofs.YthehihjcpiadgaaGreat
open Go.RowKit Go.Shelf
attribute [local go_sem] Oper.semAt_some
namespace Bk
/-- What has come when k rounds are over. -/
def upto {α : Type} (f : Nat → α) (k : Nat) : List α := (List.range k).map f
theorem upto_succ {α : Type} (f : Nat → α) (k : Nat) : upto f (k + 1) = upto f k ++ [f k] := by simp [upto, List.range_succ]
theorem upto_length {α : Type} (f : Nat → α) (k : Nat) : (upto f k).length = k := by simp [upto]
/-- Two blocks lie as they lay. -/
def Keep2 (b c : Nat) (W W' : World) : Prop := W'.heap[b]? = W.heap[b]? ∧ W'.heap[c]? = W.heap[c]?
theorem Keep2.refl (b c : Nat) (W : World) : Keep2 b c W W := ⟨rfl, rfl⟩
theorem Keep2.trans {b c : Nat} {A B C : World} (h : Keep2 b c A B) (k : Keep2 b c B C) : Keep2 b c A C := ⟨k.1.trans h.1, k.2.trans h.2⟩
theorem Keep2.cell1 {b c : Nat} {A B : World} (h : Keep2 b c A B) (o : Nat) : B.cell? ⟨b, o, none⟩ = A.cell? ⟨b, o, none⟩ := by simp [World.cell?, h.1]
theorem Keep2.cell2 {b c : Nat} {A B : World} (h : Keep2 b c A B) (o : Nat) : B.cell? ⟨c, o, none⟩ = A.cell? ⟨c, o, none⟩ := by simp [World.cell?, h.2]
/-- The k-th that comes: from behind. -/
def at_ (zs : List Int) (k : Nat) : Int × Int := ((zs.length : Int) - 1 - k, zs[zs.length - 1 - k]?.getD 0)
set_option maxRecDepth 100000 in
set_option maxHeartbeats 4000000 in
theorem back1_in (F : Fence) (n : Nat) (h7 : F.fn 220) (hro : F.round = none) (hn : 1 ≤ n) (l Bs b off cap : Nat) (zs : List Int) (hreach : zs.length ≤ 1000000) (J Jx : List (Int × Int) → World → Prop)
    (hY : ∀ pre x W, J pre W → pre.length < zs.length → YieldAt F (n - 1) Tryz.prog l #[.int .i64 x.1, .int .i64 x.2] W fun e W' =>
      (e = .returned (.bool true) ∧ J (pre ++ [x]) W' ∧ Keep2 b Bs W W') ∨ (e = .returned (.bool false) ∧ Jx (pre ++ [x]) W'))
    (W : World) (hBs : W.cell? ⟨Bs, 0, none⟩ = some (.slice (some ⟨b, off, none⟩) zs.length cap)) (hc : ∀ j, j < zs.length → W.cell? ⟨b, off + j, none⟩ = some (.int .i64 (zs[j]?.getD 0))) (h0 : J [] W) :
    CallsIn F n Tryz.prog 220 #[.func (.yield l) #[] #[], .pointer (some ⟨Bs, 0, none⟩)] W fun e W' => (∃ v, e = .returned v) ∧
      ((∃ ys, ys = upto (at_ zs) zs.length ∧ J ys W') ∨ (∃ pre, (∃ k, k ≤ zs.length ∧ pre = upto (at_ zs) k) ∧ Jx pre W')) := by
  refine callsIn_of_wp Tryz.func220 rfl h7 ?_ hro
  simp only [Tryz.ntmps220, List.size_toArray, List.length_cons, List.length_nil, Nat.reduceAdd, Nat.reduceSub, Array.replicate_succ, Array.replicate_zero, List.push_toArray, List.append_toArray, List.nil_append, List.cons_append]
  have hw : wrap64 ((zs.length : Int) - 1) = (zs.length : Int) - 1 := by unfold wrap64; omega
  gi_wp2
  gi_loopw [3] (fun i wr => ∃ (k : Nat) (i0 : Int), k ≤ zs.length ∧ i = .int .i64 i0 ∧ i0 = (zs.length : Int) - 1 - k ∧ J (upto (at_ zs) k) wr ∧ Keep2 b Bs W wr)
    (fun i _ => (intOf i + 1).toNat)
  case atStart => exact ⟨0, (zs.length : Int) - 1, Nat.zero_le _, rfl, by omega, h0, Keep2.refl _ _ _⟩
  case round =>
    obtain ⟨k, i0, hk, rfl, hi0, hJs, hnx⟩ := hrel
    have hBs' : wr.cell? ⟨Bs, 0, none⟩ = some (.slice (some ⟨b, off, none⟩) zs.length cap) := (hnx.cell2 0).trans hBs
    by_cases hlt : k < zs.length
    · obtain ⟨m, hm⟩ : ∃ m, zs.length = m + k + 1 := ⟨zs.length - 1 - k, by omega⟩
      have hm1 : zs.length - 1 - k = m := by omega
      obtain rfl : i0 = (m : Int) := by omega
      have hcx : wr.cell? ⟨b, off + m, none⟩ = some (.int .i64 (zs[m]?.getD 0)) := (hnx.cell1 (off + m)).trans (hc m (by omega))
      have hx : at_ zs k = ((m : Int), zs[m]?.getD 0) := by unfold at_; rw [hm1]; simp only [Prod.mk.injEq, and_true]; omega
      obtain ⟨fn, tmps, assign, body, hy, hR⟩ := hY _ ((m : Int), zs[m]?.getD 0) wr hJs (by rw [upto_length]; exact hlt)
      dsimp only at hy
      have hb1 : (m : Int) < (zs.length : Int) := by omega
      have hb0 : (0 : Int) ≤ (m : Int) := by omega
      have HM := Lib.hid hm
      clear hm hm1 hi0 hw
      gi_wp2
      refine hR.mono ?_
      rintro e W3 (⟨rfl, hJ3, hk3⟩ | ⟨rfl, hJx3⟩)
      · gi_wp2
        go_roundw
        case rel => exact ⟨k + 1, _, by omega, rfl, by have := HM.out; first | omega | (unfold wrap64; omega), by rw [upto_succ, hx]; exact hJ3, hnx.trans hk3⟩
        case measure => have := HM.out; first | (simp [intOf]; done) | (simp [intOf]; omega) | (simp [intOf]; unfold wrap64; omega)
      · gi_wp2
        refine bodyPost_ret (results_none rfl _ _ _) rfl ?_
        exact ⟨⟨_, rfl⟩, .inr ⟨_, ⟨k + 1, by omega, by rw [upto_succ, hx]⟩, hJx3⟩⟩
    · obtain rfl : k = zs.length := by omega
      obtain rfl : i0 = -1 := by omega
      gi_wp2
      go_end0
      exact ⟨⟨_, rfl⟩, .inl ⟨_, rfl, hJs⟩⟩
end Bk
end Go.Proofs.YthehihjcpiadgaaGreat
end
section
namespace Go.Proofs.YthehihjcpiadgaaGreat
namespace Sp
def within (n a b : Int) : Bool := decide (a ≤ n ∧ n ≤ b)
def opens (op : Int) : Bool := within op 2 4
def constT (op : Int) : Int := if op = 65 then 127 else if op = 66 then 126 else if op = 68 then 124 else 0
def isInt (op : Int) : Bool := decide ((69 ≤ op ∧ op ≤ 90) ∨ (103 ≤ op ∧ op ≤ 138) ∨ op = 167 ∨ op = 172 ∨ op = 173 ∨ (192 ≤ op ∧ op ≤ 196))
def isFlt (op : Int) : Bool := decide ((97 ≤ op ∧ op ≤ 102) ∨ (153 ≤ op ∧ op ≤ 166) ∨ op = 170 ∨ op = 171 ∨ op = 176 ∨ op = 177 ∨ (183 ≤ op ∧ op ≤ 186) ∨ op = 189 ∨ op = 191 ∨ op = 64514 ∨ op = 64515 ∨ op = 64518 ∨ op = 64519)
/-- A load or store: how many bytes. -/
def accN (op : Int) : Int := if op = 44 ∨ op = 45 ∨ op = 48 ∨ op = 49 ∨ op = 58 ∨ op = 60 then 1 else if op = 46 ∨ op = 47 ∨ op = 50 ∨ op = 51 ∨ op = 59 ∨ op = 61 then 2 else if op = 40 ∨ op = 52 ∨ op = 53 ∨ op = 54 ∨ op = 62 then 4 else if op = 41 ∨ op = 43 ∨ op = 55 ∨ op = 57 then 8 else 0
def accT (op : Int) : Int := if op = 40 ∨ op = 44 ∨ op = 45 ∨ op = 46 ∨ op = 47 ∨ op = 54 ∨ op = 58 ∨ op = 59 then 127 else if op = 43 ∨ op = 57 then 124 else 126
def accT0 (op : Int) : Int := if 0 < accN op then accT op else 0
def accB (op : Int) : Bool := decide (0 < accN op)
def accS (op : Int) : Bool := decide (op = 44 ∨ op = 46 ∨ op = 48 ∨ op = 50 ∨ op = 52)
def numB (op : Int) : Bool := isInt op || isFlt op
def known (op : Int) : Bool := numB op || accB op || decide (constT op ≠ 0) || decide ((0 ≤ op ∧ op ≤ 5) ∨ (11 ≤ op ∧ op ≤ 16) ∨ op = 18 ∨ op = 26 ∨ op = 27 ∨ (32 ≤ op ∧ op ≤ 36) ∨ op = 63 ∨ op = 64 ∨ (64520 ≤ op ∧ op ≤ 64523))
def rich (op : Int) : Bool := decide (op = 18 ∨ (192 ≤ op ∧ op ≤ 196) ∨ op = 64514 ∨ op = 64515 ∨ (64518 ≤ op ∧ op ≤ 64523))
/-- What an op of numbers takes (one or two of a type) and gives; 0: none. -/
def numC (op : Int) : Int :=
  if op = 69 ∨ op = 80 ∨ (103 ≤ op ∧ op ≤ 105) ∨ (121 ≤ op ∧ op ≤ 123) ∨ (153 ≤ op ∧ op ≤ 159) ∨ op = 167 ∨ 170 ≤ op then 1 else 2
def numA (op : Int) : Int :=
  if (69 ≤ op ∧ op ≤ 79) ∨ (103 ≤ op ∧ op ≤ 120) ∨ op = 172 ∨ op = 173 ∨ op = 183 ∨ op = 184 ∨ op = 192 ∨ op = 193 then 127
  else if (80 ≤ op ∧ op ≤ 90) ∨ (121 ≤ op ∧ op ≤ 138) ∨ op = 167 ∨ op = 185 ∨ op = 186 ∨ op = 191 ∨ (194 ≤ op ∧ op ≤ 196) then 126 else 124
def numR1 (op : Int) : Int :=
  if (69 ≤ op ∧ op ≤ 102) ∨ (103 ≤ op ∧ op ≤ 120) ∨ op = 167 ∨ op = 170 ∨ op = 171 ∨ op = 64514 ∨ op = 64515 ∨ op = 192 ∨ op = 193 then 127
  else if (121 ≤ op ∧ op ≤ 138) ∨ op = 172 ∨ op = 173 ∨ op = 176 ∨ op = 177 ∨ op = 64518 ∨ op = 64519 ∨ op = 189 ∨ (194 ≤ op ∧ op ≤ 196) then 126 else 124
def numP (op : Int) : List Int := if numB op then (if numC op = 1 then [numA op] else [numA op, numA op]) else []
def numR (op : Int) : List Int := if numB op then [numR1 op] else []
/-- An op that makes one type of another one. -/
def turnB (op : Int) : Bool := decide (op = 167 ∨ op = 172 ∨ op = 173 ∨ op = 170 ∨ op = 171 ∨ op = 64514 ∨ op = 64515 ∨ op = 176 ∨ op = 177 ∨ op = 64518 ∨ op = 64519 ∨ op = 189 ∨ op = 183 ∨ op = 184 ∨ op = 185 ∨ op = 186 ∨ op = 191 ∨ (192 ≤ op ∧ op ≤ 196))
def turnP (op : Int) : List Int := if turnB op then numP op else []
def turnR (op : Int) : List Int := if turnB op then numR op else []
theorem turn_num (op : Int) (h : turnB op = true) : numB op = true := by
  simp only [turnB, numB, isInt, isFlt, decide_eq_true_eq, Bool.or_eq_true] at *
  omega
end Sp
end Go.Proofs.YthehihjcpiadgaaGreat
end
section
namespace Go.Proofs.YthehihjcpiadgaaGreat
namespace Sp
theorem accN_lt (op : Int) (h : 62 < op) : accN op = 0 := by
  unfold accN
  rw [if_neg (by omega), if_neg (by omega), if_neg (by omega), if_neg (by omega)]
theorem constT_lt (op : Int) (h : 68 < op) : constT op = 0 := by
  unfold constT
  rw [if_neg (by omega), if_neg (by omega), if_neg (by omega)]
theorem rich_known (op : Int) : (known op && (decide (op = 18) || decide (192 ≤ op))) = rich op := by
  rw [Bool.eq_iff_iff]
  simp only [known, numB, isInt, isFlt, accB, rich, Bool.or_eq_true, Bool.and_eq_true, decide_eq_true_eq]
  by_cases h18 : op = 18
  · simp [h18]
  · by_cases hg : 192 ≤ op
    · have e1 := accN_lt op (by omega)
      have e2 := constT_lt op (by omega)
      rw [e1, e2]
      omega
    · omega
theorem accN_range (op : Int) : 0 ≤ accN op ∧ (accN op ≠ 0 → 40 ≤ op ∧ op ≤ 62) := by
  unfold accN
  (repeat' split) <;> omega
theorem constT_range (op : Int) : 0 ≤ constT op ∧ (constT op ≠ 0 → op = 65 ∨ op = 66 ∨ op = 68) := by
  unfold constT
  (repeat' split) <;> omega
/-- Which fields an instruction may have: A, B, N, L. -/
def askA (op : Int) : Bool := opens op || decide (op = 12 ∨ op = 13 ∨ op = 16 ∨ op = 18 ∨ (32 ≤ op ∧ op ≤ 36) ∨ op = 63 ∨ op = 64 ∨ (64520 ≤ op ∧ op ≤ 64523)) || accB op
def askB (op : Int) : Bool := decide (op = 64520 ∨ op = 64522)
def askN (op : Int) : Bool := accB op || decide (constT op ≠ 0)
def askL (op : Int) : Bool := decide (op = 14)
end Sp
end Go.Proofs.YthehihjcpiadgaaGreat
end
section
namespace Go.Proofs.YthehihjcpiadgaaGreat
open Go.RowKit Go.Proofs.YthehihjcpiadgaaGreatW.PrintWords
set_option linter.unusedVariables false
set_option linter.unusedSimpArgs false
structure SInst where
  f0 : Int
  f1 : Int
  f2 : Int
  f3 : Int
  f4 : (List Int)
def zInst : SInst := ⟨(0 : Int), (0 : Int), (0 : Int), (0 : Int), ([] : List Int)⟩
def kInst : Kd SInst := Kd.iso (Kd.pair (Kd.int .i64) (Kd.pair (Kd.int .i64) (Kd.pair (Kd.int .i64) (Kd.pair (Kd.int .u64) (Kd.slice 3 (Kd.int .i64)))))) (fun x : SInst => (x.f0, x.f1, x.f2, x.f3, x.f4))
theorem kInst_open {w : World} {x : SInst} {cs : List Value} (h : kInst.K w x cs) : ∃ A4 c4, cs = [.int .i64 x.f0, .int .i64 x.f1, .int .i64 x.f2, .int .u64 x.f3, .slice A4 x.f4.length c4] ∧ x.f4.length ≤ c4 ∧ (Kd.int .i64).C w A4 x.f4.length x.f4 := by
  obtain ⟨_, _, rfl, rfl, ⟨_, _, rfl, rfl, ⟨_, _, rfl, rfl, ⟨_, _, rfl, rfl, ⟨A4, c4, rfl, l4, g4⟩⟩⟩⟩⟩ := h
  exact ⟨A4, c4, rfl, l4, g4⟩
theorem kInst_mk (w : World) (x : SInst) {A4 : Option Addr} {c4 : Nat} (l4 : x.f4.length ≤ c4) (g4 : (Kd.int .i64).C w A4 x.f4.length x.f4) : kInst.K w x [.int .i64 x.f0, .int .i64 x.f1, .int .i64 x.f2, .int .u64 x.f3, .slice A4 x.f4.length c4] := ⟨[.int .i64 x.f0], [.int .i64 x.f1, .int .i64 x.f2, .int .u64 x.f3, .slice A4 x.f4.length c4], rfl, rfl, ⟨[.int .i64 x.f1], [.int .i64 x.f2, .int .u64 x.f3, .slice A4 x.f4.length c4], rfl, rfl, ⟨[.int .i64 x.f2], [.int .u64 x.f3, .slice A4 x.f4.length c4], rfl, rfl, ⟨[.int .u64 x.f3], [.slice A4 x.f4.length c4], rfl, rfl, ⟨A4, c4, rfl, l4, g4⟩⟩⟩⟩⟩
def rd_TInst (xs : List SInst) (i : Int) : SInst := xs.getD i.toNat zInst
theorem at_TInst {w : World} {A : Option Addr} {n : Nat} {xs : List SInst} (h : Kd.C kInst w A n xs) (i : Int) (h0 : 0 ≤ i) (h1 : i < n) : ∃ ad A4 c4, A = some ad ∧ w.cell? (ad.add (i.toNat * 5)) = some (.int .i64 (rd_TInst xs i).f0) ∧ w.cell? ⟨(ad.add (i.toNat * 5)).block, (ad.add (i.toNat * 5)).off + 1, none⟩ = some (.int .i64 (rd_TInst xs i).f1) ∧ w.cell? ⟨(ad.add (i.toNat * 5)).block, (ad.add (i.toNat * 5)).off + 2, none⟩ = some (.int .i64 (rd_TInst xs i).f2) ∧ w.cell? ⟨(ad.add (i.toNat * 5)).block, (ad.add (i.toNat * 5)).off + 3, none⟩ = some (.int .u64 (rd_TInst xs i).f3) ∧ w.cell? ⟨(ad.add (i.toNat * 5)).block, (ad.add (i.toNat * 5)).off + 4, none⟩ = some (.slice A4 (rd_TInst xs i).f4.length c4) ∧ (rd_TInst xs i).f4.length ≤ c4 ∧ (Kd.int .i64).C w A4 (rd_TInst xs i).f4.length (rd_TInst xs i).f4 := by
  obtain ⟨ad, c, e, _, hK, hc0⟩ := Kd.C_get h zInst i h0 h1
  have hc : ∀ j u, c[j]? = some u → w.cell? (ad.add (i.toNat * 5 + j)) = some u := hc0
  obtain ⟨A4, c4, rfl, l4, g4⟩ := kInst_open hK
  exact ⟨ad, A4, c4, e, hc 0 _ rfl, by rw [← add_field _ _ 1 (by omega)]; exact hc 1 _ rfl, by rw [← add_field _ _ 2 (by omega)]; exact hc 2 _ rfl, by rw [← add_field _ _ 3 (by omega)]; exact hc 3 _ rfl, by rw [← add_field _ _ 4 (by omega)]; exact hc 4 _ rfl, l4, g4⟩
structure STy where
  f0 : (List Int)
  f1 : (List Int)
def zTy : STy := ⟨([] : List Int), ([] : List Int)⟩
def kTy : Kd STy := Kd.iso (Kd.pair (Kd.slice 3 (Kd.int .i64)) (Kd.slice 3 (Kd.int .i64))) (fun x : STy => (x.f0, x.f1))
theorem kTy_open {w : World} {x : STy} {cs : List Value} (h : kTy.K w x cs) : ∃ A0 c0 A1 c1, cs = [.slice A0 x.f0.length c0, .slice A1 x.f1.length c1] ∧ x.f0.length ≤ c0 ∧ (Kd.int .i64).C w A0 x.f0.length x.f0 ∧ x.f1.length ≤ c1 ∧ (Kd.int .i64).C w A1 x.f1.length x.f1 := by
  obtain ⟨_, _, rfl, ⟨A0, c0, rfl, l0, g0⟩, ⟨A1, c1, rfl, l1, g1⟩⟩ := h
  exact ⟨A0, c0, A1, c1, rfl, l0, g0, l1, g1⟩
theorem kTy_openM {w : World} {base : Nat} {ok : Nat → Prop} {x : STy} {cs : List Value} (h : kTy.M w base ok x cs) : ∃ v0 v1, cs = [v0, v1] ∧ (Kd.int .i64).R 3 w base ok v0 x.f0 ∧ (Kd.int .i64).R 3 w base ok v1 x.f1 := by
  obtain ⟨_, _, rfl, ⟨v0, rfl, g0⟩, ⟨v1, rfl, g1⟩⟩ := h
  exact ⟨v0, v1, rfl, g0, g1⟩
theorem kTy_mk (w : World) (x : STy) {A0 : Option Addr} {c0 : Nat} (l0 : x.f0.length ≤ c0) (g0 : (Kd.int .i64).C w A0 x.f0.length x.f0) {A1 : Option Addr} {c1 : Nat} (l1 : x.f1.length ≤ c1) (g1 : (Kd.int .i64).C w A1 x.f1.length x.f1) : kTy.K w x [.slice A0 x.f0.length c0, .slice A1 x.f1.length c1] := ⟨[.slice A0 x.f0.length c0], [.slice A1 x.f1.length c1], rfl, ⟨A0, c0, rfl, l0, g0⟩, ⟨A1, c1, rfl, l1, g1⟩⟩
theorem kTy_mkM (w : World) (base : Nat) (ok : Nat → Prop) (x : STy) {v0 : Value} (g0 : (Kd.int .i64).R 3 w base ok v0 x.f0) {v1 : Value} (g1 : (Kd.int .i64).R 3 w base ok v1 x.f1) : kTy.M w base ok x [v0, v1] := ⟨[v0], [v1], rfl, ⟨v0, rfl, g0⟩, ⟨v1, rfl, g1⟩⟩
def rd_TTy (xs : List STy) (i : Int) : STy := xs.getD i.toNat zTy
theorem at_TTy {w : World} {A : Option Addr} {n : Nat} {xs : List STy} (h : Kd.C kTy w A n xs) (i : Int) (h0 : 0 ≤ i) (h1 : i < n) : ∃ ad A0 c0 A1 c1, A = some ad ∧ w.cell? (ad.add (i.toNat * 2)) = some (.slice A0 (rd_TTy xs i).f0.length c0) ∧ w.cell? ⟨(ad.add (i.toNat * 2)).block, (ad.add (i.toNat * 2)).off + 1, none⟩ = some (.slice A1 (rd_TTy xs i).f1.length c1) ∧ (rd_TTy xs i).f0.length ≤ c0 ∧ (Kd.int .i64).C w A0 (rd_TTy xs i).f0.length (rd_TTy xs i).f0 ∧ (rd_TTy xs i).f1.length ≤ c1 ∧ (Kd.int .i64).C w A1 (rd_TTy xs i).f1.length (rd_TTy xs i).f1 := by
  obtain ⟨ad, c, e, _, hK, hc0⟩ := Kd.C_get h zTy i h0 h1
  have hc : ∀ j u, c[j]? = some u → w.cell? (ad.add (i.toNat * 2 + j)) = some u := hc0
  obtain ⟨A0, c0, A1, c1, rfl, l0, g0, l1, g1⟩ := kTy_open hK
  exact ⟨ad, A0, c0, A1, c1, e, hc 0 _ rfl, by rw [← add_field _ _ 1 (by omega)]; exact hc 1 _ rfl, l0, g0, l1, g1⟩
structure SFun where
  f0 : Int
  f1 : (List Int)
  f2 : (List SInst)
def zFun : SFun := ⟨(0 : Int), ([] : List Int), ([] : List SInst)⟩
def kFun : Kd SFun := Kd.iso (Kd.pair (Kd.int .i64) (Kd.pair (Kd.slice 3 (Kd.int .i64)) (Kd.slice 25 kInst))) (fun x : SFun => (x.f0, x.f1, x.f2))
theorem kFun_open {w : World} {x : SFun} {cs : List Value} (h : kFun.K w x cs) : ∃ A1 c1 A2 c2, cs = [.int .i64 x.f0, .slice A1 x.f1.length c1, .slice A2 x.f2.length c2] ∧ x.f1.length ≤ c1 ∧ (Kd.int .i64).C w A1 x.f1.length x.f1 ∧ x.f2.length ≤ c2 ∧ kInst.C w A2 x.f2.length x.f2 := by
  obtain ⟨_, _, rfl, rfl, ⟨_, _, rfl, ⟨A1, c1, rfl, l1, g1⟩, ⟨A2, c2, rfl, l2, g2⟩⟩⟩ := h
  exact ⟨A1, c1, A2, c2, rfl, l1, g1, l2, g2⟩
theorem kFun_mk (w : World) (x : SFun) {A1 : Option Addr} {c1 : Nat} (l1 : x.f1.length ≤ c1) (g1 : (Kd.int .i64).C w A1 x.f1.length x.f1) {A2 : Option Addr} {c2 : Nat} (l2 : x.f2.length ≤ c2) (g2 : kInst.C w A2 x.f2.length x.f2) : kFun.K w x [.int .i64 x.f0, .slice A1 x.f1.length c1, .slice A2 x.f2.length c2] := ⟨[.int .i64 x.f0], [.slice A1 x.f1.length c1, .slice A2 x.f2.length c2], rfl, rfl, ⟨[.slice A1 x.f1.length c1], [.slice A2 x.f2.length c2], rfl, ⟨A1, c1, rfl, l1, g1⟩, ⟨A2, c2, rfl, l2, g2⟩⟩⟩
def rd_TFun (xs : List SFun) (i : Int) : SFun := xs.getD i.toNat zFun
theorem at_TFun {w : World} {A : Option Addr} {n : Nat} {xs : List SFun} (h : Kd.C kFun w A n xs) (i : Int) (h0 : 0 ≤ i) (h1 : i < n) : ∃ ad A1 c1 A2 c2, A = some ad ∧ w.cell? (ad.add (i.toNat * 3)) = some (.int .i64 (rd_TFun xs i).f0) ∧ w.cell? ⟨(ad.add (i.toNat * 3)).block, (ad.add (i.toNat * 3)).off + 1, none⟩ = some (.slice A1 (rd_TFun xs i).f1.length c1) ∧ w.cell? ⟨(ad.add (i.toNat * 3)).block, (ad.add (i.toNat * 3)).off + 2, none⟩ = some (.slice A2 (rd_TFun xs i).f2.length c2) ∧ (rd_TFun xs i).f1.length ≤ c1 ∧ (Kd.int .i64).C w A1 (rd_TFun xs i).f1.length (rd_TFun xs i).f1 ∧ (rd_TFun xs i).f2.length ≤ c2 ∧ kInst.C w A2 (rd_TFun xs i).f2.length (rd_TFun xs i).f2 := by
  obtain ⟨ad, c, e, _, hK, hc0⟩ := Kd.C_get h zFun i h0 h1
  have hc : ∀ j u, c[j]? = some u → w.cell? (ad.add (i.toNat * 3 + j)) = some u := hc0
  obtain ⟨A1, c1, A2, c2, rfl, l1, g1, l2, g2⟩ := kFun_open hK
  exact ⟨ad, A1, c1, A2, c2, e, hc 0 _ rfl, by rw [← add_field _ _ 1 (by omega)]; exact hc 1 _ rfl, by rw [← add_field _ _ 2 (by omega)]; exact hc 2 _ rfl, l1, g1, l2, g2⟩
structure SGlob where
  f0 : Int
  f1 : Bool
  f2 : Int
def zGlob : SGlob := ⟨(0 : Int), false, (0 : Int)⟩
def kGlob : Kd SGlob := Kd.iso (Kd.pair (Kd.int .i64) (Kd.pair Kd.bool (Kd.int .u64))) (fun x : SGlob => (x.f0, x.f1, x.f2))
theorem kGlob_open {w : World} {x : SGlob} {cs : List Value} (h : kGlob.K w x cs) : cs = [.int .i64 x.f0, .bool x.f1, .int .u64 x.f2] := by
  obtain ⟨_, _, rfl, rfl, ⟨_, _, rfl, rfl, rfl⟩⟩ := h
  exact rfl
theorem kGlob_mk (w : World) (x : SGlob)  : kGlob.K w x [.int .i64 x.f0, .bool x.f1, .int .u64 x.f2] := ⟨[.int .i64 x.f0], [.bool x.f1, .int .u64 x.f2], rfl, rfl, ⟨[.bool x.f1], [.int .u64 x.f2], rfl, rfl, rfl⟩⟩
def rd_TGlob (xs : List SGlob) (i : Int) : SGlob := xs.getD i.toNat zGlob
theorem at_TGlob {w : World} {A : Option Addr} {n : Nat} {xs : List SGlob} (h : Kd.C kGlob w A n xs) (i : Int) (h0 : 0 ≤ i) (h1 : i < n) : ∃ ad , A = some ad ∧ w.cell? (ad.add (i.toNat * 3)) = some (.int .i64 (rd_TGlob xs i).f0) ∧ w.cell? ⟨(ad.add (i.toNat * 3)).block, (ad.add (i.toNat * 3)).off + 1, none⟩ = some (.bool (rd_TGlob xs i).f1) ∧ w.cell? ⟨(ad.add (i.toNat * 3)).block, (ad.add (i.toNat * 3)).off + 2, none⟩ = some (.int .u64 (rd_TGlob xs i).f2) := by
  obtain ⟨ad, c, e, _, hK, hc0⟩ := Kd.C_get h zGlob i h0 h1
  have hc : ∀ j u, c[j]? = some u → w.cell? (ad.add (i.toNat * 3 + j)) = some u := hc0
  obtain rfl := kGlob_open hK
  exact ⟨ad, e, hc 0 _ rfl, by rw [← add_field _ _ 1 (by omega)]; exact hc 1 _ rfl, by rw [← add_field _ _ 2 (by omega)]; exact hc 2 _ rfl⟩
structure SMem where
  f0 : Int
  f1 : Int
def zMem : SMem := ⟨(0 : Int), (0 : Int)⟩
def kMem : Kd SMem := Kd.iso (Kd.pair (Kd.int .i64) (Kd.int .i64)) (fun x : SMem => (x.f0, x.f1))
theorem kMem_open {w : World} {x : SMem} {cs : List Value} (h : kMem.K w x cs) : cs = [.int .i64 x.f0, .int .i64 x.f1] := by
  obtain ⟨_, _, rfl, rfl, rfl⟩ := h
  exact rfl
theorem kMem_mk (w : World) (x : SMem)  : kMem.K w x [.int .i64 x.f0, .int .i64 x.f1] := ⟨[.int .i64 x.f0], [.int .i64 x.f1], rfl, rfl, rfl⟩
def rd_TMem (xs : List SMem) (i : Int) : SMem := xs.getD i.toNat zMem
theorem at_TMem {w : World} {A : Option Addr} {n : Nat} {xs : List SMem} (h : Kd.C kMem w A n xs) (i : Int) (h0 : 0 ≤ i) (h1 : i < n) : ∃ ad , A = some ad ∧ w.cell? (ad.add (i.toNat * 2)) = some (.int .i64 (rd_TMem xs i).f0) ∧ w.cell? ⟨(ad.add (i.toNat * 2)).block, (ad.add (i.toNat * 2)).off + 1, none⟩ = some (.int .i64 (rd_TMem xs i).f1) := by
  obtain ⟨ad, c, e, _, hK, hc0⟩ := Kd.C_get h zMem i h0 h1
  have hc : ∀ j u, c[j]? = some u → w.cell? (ad.add (i.toNat * 2 + j)) = some u := hc0
  obtain rfl := kMem_open hK
  exact ⟨ad, e, hc 0 _ rfl, by rw [← add_field _ _ 1 (by omega)]; exact hc 1 _ rfl⟩
structure SData where
  f0 : Bool
  f1 : Int
  f2 : Int
  f3 : (List Int)
def zData : SData := ⟨false, (0 : Int), (0 : Int), ([] : List Int)⟩
def kData : Kd SData := Kd.iso (Kd.pair Kd.bool (Kd.pair (Kd.int .i64) (Kd.pair (Kd.int .i64) (Kd.slice 5 (Kd.int .u8))))) (fun x : SData => (x.f0, x.f1, x.f2, x.f3))
theorem kData_open {w : World} {x : SData} {cs : List Value} (h : kData.K w x cs) : ∃ A3 c3, cs = [.bool x.f0, .int .i64 x.f1, .int .i64 x.f2, .slice A3 x.f3.length c3] ∧ x.f3.length ≤ c3 ∧ (Kd.int .u8).C w A3 x.f3.length x.f3 := by
  obtain ⟨_, _, rfl, rfl, ⟨_, _, rfl, rfl, ⟨_, _, rfl, rfl, ⟨A3, c3, rfl, l3, g3⟩⟩⟩⟩ := h
  exact ⟨A3, c3, rfl, l3, g3⟩
theorem kData_mk (w : World) (x : SData) {A3 : Option Addr} {c3 : Nat} (l3 : x.f3.length ≤ c3) (g3 : (Kd.int .u8).C w A3 x.f3.length x.f3) : kData.K w x [.bool x.f0, .int .i64 x.f1, .int .i64 x.f2, .slice A3 x.f3.length c3] := ⟨[.bool x.f0], [.int .i64 x.f1, .int .i64 x.f2, .slice A3 x.f3.length c3], rfl, rfl, ⟨[.int .i64 x.f1], [.int .i64 x.f2, .slice A3 x.f3.length c3], rfl, rfl, ⟨[.int .i64 x.f2], [.slice A3 x.f3.length c3], rfl, rfl, ⟨A3, c3, rfl, l3, g3⟩⟩⟩⟩
def rd_TData (xs : List SData) (i : Int) : SData := xs.getD i.toNat zData
theorem at_TData {w : World} {A : Option Addr} {n : Nat} {xs : List SData} (h : Kd.C kData w A n xs) (i : Int) (h0 : 0 ≤ i) (h1 : i < n) : ∃ ad A3 c3, A = some ad ∧ w.cell? (ad.add (i.toNat * 4)) = some (.bool (rd_TData xs i).f0) ∧ w.cell? ⟨(ad.add (i.toNat * 4)).block, (ad.add (i.toNat * 4)).off + 1, none⟩ = some (.int .i64 (rd_TData xs i).f1) ∧ w.cell? ⟨(ad.add (i.toNat * 4)).block, (ad.add (i.toNat * 4)).off + 2, none⟩ = some (.int .i64 (rd_TData xs i).f2) ∧ w.cell? ⟨(ad.add (i.toNat * 4)).block, (ad.add (i.toNat * 4)).off + 3, none⟩ = some (.slice A3 (rd_TData xs i).f3.length c3) ∧ (rd_TData xs i).f3.length ≤ c3 ∧ (Kd.int .u8).C w A3 (rd_TData xs i).f3.length (rd_TData xs i).f3 := by
  obtain ⟨ad, c, e, _, hK, hc0⟩ := Kd.C_get h zData i h0 h1
  have hc : ∀ j u, c[j]? = some u → w.cell? (ad.add (i.toNat * 4 + j)) = some u := hc0
  obtain ⟨A3, c3, rfl, l3, g3⟩ := kData_open hK
  exact ⟨ad, A3, c3, e, hc 0 _ rfl, by rw [← add_field _ _ 1 (by omega)]; exact hc 1 _ rfl, by rw [← add_field _ _ 2 (by omega)]; exact hc 2 _ rfl, by rw [← add_field _ _ 3 (by omega)]; exact hc 3 _ rfl, l3, g3⟩
structure SExp where
  f0 : ByteArray
  f1 : Int
  f2 : Int
def zExp : SExp := ⟨(⟨#[]⟩ : ByteArray), (0 : Int), (0 : Int)⟩
def kExp : Kd SExp := Kd.iso (Kd.pair Kd.string (Kd.pair (Kd.int .i64) (Kd.int .i64))) (fun x : SExp => (x.f0, x.f1, x.f2))
theorem kExp_open {w : World} {x : SExp} {cs : List Value} (h : kExp.K w x cs) : cs = [.string x.f0, .int .i64 x.f1, .int .i64 x.f2] := by
  obtain ⟨_, _, rfl, rfl, ⟨_, _, rfl, rfl, rfl⟩⟩ := h
  exact rfl
def rd_TExp (xs : List SExp) (i : Int) : SExp := xs.getD i.toNat zExp
theorem at_TExp {w : World} {A : Option Addr} {n : Nat} {xs : List SExp} (h : Kd.C kExp w A n xs) (i : Int) (h0 : 0 ≤ i) (h1 : i < n) : ∃ ad , A = some ad ∧ w.cell? (ad.add (i.toNat * 3)) = some (.string (rd_TExp xs i).f0) ∧ w.cell? ⟨(ad.add (i.toNat * 3)).block, (ad.add (i.toNat * 3)).off + 1, none⟩ = some (.int .i64 (rd_TExp xs i).f1) ∧ w.cell? ⟨(ad.add (i.toNat * 3)).block, (ad.add (i.toNat * 3)).off + 2, none⟩ = some (.int .i64 (rd_TExp xs i).f2) := by
  obtain ⟨ad, c, e, _, hK, hc0⟩ := Kd.C_get h zExp i h0 h1
  have hc : ∀ j u, c[j]? = some u → w.cell? (ad.add (i.toNat * 3 + j)) = some u := hc0
  obtain rfl := kExp_open hK
  exact ⟨ad, e, hc 0 _ rfl, by rw [← add_field _ _ 1 (by omega)]; exact hc 1 _ rfl, by rw [← add_field _ _ 2 (by omega)]; exact hc 2 _ rfl⟩
structure SImp where
  f0 : ByteArray
  f1 : ByteArray
  f2 : Int
def zImp : SImp := ⟨(⟨#[]⟩ : ByteArray), (⟨#[]⟩ : ByteArray), (0 : Int)⟩
def kImp : Kd SImp := Kd.iso (Kd.pair Kd.string (Kd.pair Kd.string (Kd.int .i64))) (fun x : SImp => (x.f0, x.f1, x.f2))
theorem kImp_open {w : World} {x : SImp} {cs : List Value} (h : kImp.K w x cs) : cs = [.string x.f0, .string x.f1, .int .i64 x.f2] := by
  obtain ⟨_, _, rfl, rfl, ⟨_, _, rfl, rfl, rfl⟩⟩ := h
  exact rfl
theorem kImp_mk (w : World) (x : SImp)  : kImp.K w x [.string x.f0, .string x.f1, .int .i64 x.f2] := ⟨[.string x.f0], [.string x.f1, .int .i64 x.f2], rfl, rfl, ⟨[.string x.f1], [.int .i64 x.f2], rfl, rfl, rfl⟩⟩
def rd_TImp (xs : List SImp) (i : Int) : SImp := xs.getD i.toNat zImp
theorem at_TImp {w : World} {A : Option Addr} {n : Nat} {xs : List SImp} (h : Kd.C kImp w A n xs) (i : Int) (h0 : 0 ≤ i) (h1 : i < n) : ∃ ad , A = some ad ∧ w.cell? (ad.add (i.toNat * 3)) = some (.string (rd_TImp xs i).f0) ∧ w.cell? ⟨(ad.add (i.toNat * 3)).block, (ad.add (i.toNat * 3)).off + 1, none⟩ = some (.string (rd_TImp xs i).f1) ∧ w.cell? ⟨(ad.add (i.toNat * 3)).block, (ad.add (i.toNat * 3)).off + 2, none⟩ = some (.int .i64 (rd_TImp xs i).f2) := by
  obtain ⟨ad, c, e, _, hK, hc0⟩ := Kd.C_get h zImp i h0 h1
  have hc : ∀ j u, c[j]? = some u → w.cell? (ad.add (i.toNat * 3 + j)) = some u := hc0
  obtain rfl := kImp_open hK
  exact ⟨ad, e, hc 0 _ rfl, by rw [← add_field _ _ 1 (by omega)]; exact hc 1 _ rfl, by rw [← add_field _ _ 2 (by omega)]; exact hc 2 _ rfl⟩
structure SCus where
  f0 : ByteArray
  f1 : (List Int)
def zCus : SCus := ⟨(⟨#[]⟩ : ByteArray), ([] : List Int)⟩
def kCus : Kd SCus := Kd.iso (Kd.pair Kd.string (Kd.slice 5 (Kd.int .u8))) (fun x : SCus => (x.f0, x.f1))
theorem kCus_open {w : World} {x : SCus} {cs : List Value} (h : kCus.K w x cs) : ∃ A1 c1, cs = [.string x.f0, .slice A1 x.f1.length c1] ∧ x.f1.length ≤ c1 ∧ (Kd.int .u8).C w A1 x.f1.length x.f1 := by
  obtain ⟨_, _, rfl, rfl, ⟨A1, c1, rfl, l1, g1⟩⟩ := h
  exact ⟨A1, c1, rfl, l1, g1⟩
theorem kCus_mk (w : World) (x : SCus) {A1 : Option Addr} {c1 : Nat} (l1 : x.f1.length ≤ c1) (g1 : (Kd.int .u8).C w A1 x.f1.length x.f1) : kCus.K w x [.string x.f0, .slice A1 x.f1.length c1] := ⟨[.string x.f0], [.slice A1 x.f1.length c1], rfl, rfl, ⟨A1, c1, rfl, l1, g1⟩⟩
def rd_TCus (xs : List SCus) (i : Int) : SCus := xs.getD i.toNat zCus
theorem at_TCus {w : World} {A : Option Addr} {n : Nat} {xs : List SCus} (h : Kd.C kCus w A n xs) (i : Int) (h0 : 0 ≤ i) (h1 : i < n) : ∃ ad A1 c1, A = some ad ∧ w.cell? (ad.add (i.toNat * 2)) = some (.string (rd_TCus xs i).f0) ∧ w.cell? ⟨(ad.add (i.toNat * 2)).block, (ad.add (i.toNat * 2)).off + 1, none⟩ = some (.slice A1 (rd_TCus xs i).f1.length c1) ∧ (rd_TCus xs i).f1.length ≤ c1 ∧ (Kd.int .u8).C w A1 (rd_TCus xs i).f1.length (rd_TCus xs i).f1 := by
  obtain ⟨ad, c, e, _, hK, hc0⟩ := Kd.C_get h zCus i h0 h1
  have hc : ∀ j u, c[j]? = some u → w.cell? (ad.add (i.toNat * 2 + j)) = some u := hc0
  obtain ⟨A1, c1, rfl, l1, g1⟩ := kCus_open hK
  exact ⟨ad, A1, c1, e, hc 0 _ rfl, by rw [← add_field _ _ 1 (by omega)]; exact hc 1 _ rfl, l1, g1⟩
structure SMod where
  f0 : (List STy)
  f1 : (List SImp)
  f2 : (List SFun)
  f3 : (List SMem)
  f4 : (List SGlob)
  f5 : (List SExp)
  f6 : (List SData)
  f7 : (List SCus)
def kMod : Kd SMod := Kd.iso (Kd.pair (Kd.slice 40 kTy) (Kd.pair (Kd.slice 72 kImp) (Kd.pair (Kd.slice 59 kFun) (Kd.pair (Kd.slice 74 kMem) (Kd.pair (Kd.slice 55 kGlob) (Kd.pair (Kd.slice 86 kExp) (Kd.pair (Kd.slice 76 kData) (Kd.slice 53 kCus)))))))) (fun x : SMod => (x.f0, x.f1, x.f2, x.f3, x.f4, x.f5, x.f6, x.f7))
theorem kMod_open {w : World} {x : SMod} {cs : List Value} (h : kMod.K w x cs) : ∃ A0 c0 A1 c1 A2 c2 A3 c3 A4 c4 A5 c5 A6 c6 A7 c7, cs = [.slice A0 x.f0.length c0, .slice A1 x.f1.length c1, .slice A2 x.f2.length c2, .slice A3 x.f3.length c3, .slice A4 x.f4.length c4, .slice A5 x.f5.length c5, .slice A6 x.f6.length c6, .slice A7 x.f7.length c7] ∧ x.f0.length ≤ c0 ∧ kTy.C w A0 x.f0.length x.f0 ∧ x.f1.length ≤ c1 ∧ kImp.C w A1 x.f1.length x.f1 ∧ x.f2.length ≤ c2 ∧ kFun.C w A2 x.f2.length x.f2 ∧ x.f3.length ≤ c3 ∧ kMem.C w A3 x.f3.length x.f3 ∧ x.f4.length ≤ c4 ∧ kGlob.C w A4 x.f4.length x.f4 ∧ x.f5.length ≤ c5 ∧ kExp.C w A5 x.f5.length x.f5 ∧ x.f6.length ≤ c6 ∧ kData.C w A6 x.f6.length x.f6 ∧ x.f7.length ≤ c7 ∧ kCus.C w A7 x.f7.length x.f7 := by
  obtain ⟨_, _, rfl, ⟨A0, c0, rfl, l0, g0⟩, ⟨_, _, rfl, ⟨A1, c1, rfl, l1, g1⟩, ⟨_, _, rfl, ⟨A2, c2, rfl, l2, g2⟩, ⟨_, _, rfl, ⟨A3, c3, rfl, l3, g3⟩, ⟨_, _, rfl, ⟨A4, c4, rfl, l4, g4⟩, ⟨_, _, rfl, ⟨A5, c5, rfl, l5, g5⟩, ⟨_, _, rfl, ⟨A6, c6, rfl, l6, g6⟩, ⟨A7, c7, rfl, l7, g7⟩⟩⟩⟩⟩⟩⟩⟩ := h
  exact ⟨A0, c0, A1, c1, A2, c2, A3, c3, A4, c4, A5, c5, A6, c6, A7, c7, rfl, l0, g0, l1, g1, l2, g2, l3, g3, l4, g4, l5, g5, l6, g6, l7, g7⟩
theorem kMod_mk (w : World) (x : SMod) {A0 : Option Addr} {c0 : Nat} (l0 : x.f0.length ≤ c0) (g0 : kTy.C w A0 x.f0.length x.f0) {A1 : Option Addr} {c1 : Nat} (l1 : x.f1.length ≤ c1) (g1 : kImp.C w A1 x.f1.length x.f1) {A2 : Option Addr} {c2 : Nat} (l2 : x.f2.length ≤ c2) (g2 : kFun.C w A2 x.f2.length x.f2) {A3 : Option Addr} {c3 : Nat} (l3 : x.f3.length ≤ c3) (g3 : kMem.C w A3 x.f3.length x.f3) {A4 : Option Addr} {c4 : Nat} (l4 : x.f4.length ≤ c4) (g4 : kGlob.C w A4 x.f4.length x.f4) {A5 : Option Addr} {c5 : Nat} (l5 : x.f5.length ≤ c5) (g5 : kExp.C w A5 x.f5.length x.f5) {A6 : Option Addr} {c6 : Nat} (l6 : x.f6.length ≤ c6) (g6 : kData.C w A6 x.f6.length x.f6) {A7 : Option Addr} {c7 : Nat} (l7 : x.f7.length ≤ c7) (g7 : kCus.C w A7 x.f7.length x.f7) : kMod.K w x [.slice A0 x.f0.length c0, .slice A1 x.f1.length c1, .slice A2 x.f2.length c2, .slice A3 x.f3.length c3, .slice A4 x.f4.length c4, .slice A5 x.f5.length c5, .slice A6 x.f6.length c6, .slice A7 x.f7.length c7] := ⟨[.slice A0 x.f0.length c0], [.slice A1 x.f1.length c1, .slice A2 x.f2.length c2, .slice A3 x.f3.length c3, .slice A4 x.f4.length c4, .slice A5 x.f5.length c5, .slice A6 x.f6.length c6, .slice A7 x.f7.length c7], rfl, ⟨A0, c0, rfl, l0, g0⟩, ⟨[.slice A1 x.f1.length c1], [.slice A2 x.f2.length c2, .slice A3 x.f3.length c3, .slice A4 x.f4.length c4, .slice A5 x.f5.length c5, .slice A6 x.f6.length c6, .slice A7 x.f7.length c7], rfl, ⟨A1, c1, rfl, l1, g1⟩, ⟨[.slice A2 x.f2.length c2], [.slice A3 x.f3.length c3, .slice A4 x.f4.length c4, .slice A5 x.f5.length c5, .slice A6 x.f6.length c6, .slice A7 x.f7.length c7], rfl, ⟨A2, c2, rfl, l2, g2⟩, ⟨[.slice A3 x.f3.length c3], [.slice A4 x.f4.length c4, .slice A5 x.f5.length c5, .slice A6 x.f6.length c6, .slice A7 x.f7.length c7], rfl, ⟨A3, c3, rfl, l3, g3⟩, ⟨[.slice A4 x.f4.length c4], [.slice A5 x.f5.length c5, .slice A6 x.f6.length c6, .slice A7 x.f7.length c7], rfl, ⟨A4, c4, rfl, l4, g4⟩, ⟨[.slice A5 x.f5.length c5], [.slice A6 x.f6.length c6, .slice A7 x.f7.length c7], rfl, ⟨A5, c5, rfl, l5, g5⟩, ⟨[.slice A6 x.f6.length c6], [.slice A7 x.f7.length c7], rfl, ⟨A6, c6, rfl, l6, g6⟩, ⟨A7, c7, rfl, l7, g7⟩⟩⟩⟩⟩⟩⟩⟩
structure SFr where
  f0 : Int
  f1 : STy
  f2 : Int
  f3 : Bool
def zFr : SFr := ⟨(0 : Int), zTy, (0 : Int), false⟩
def kFr : Kd SFr := Kd.iso (Kd.pair (Kd.int .i64) (Kd.pair kTy (Kd.pair (Kd.int .i64) Kd.bool))) (fun x : SFr => (x.f0, x.f1, x.f2, x.f3))
theorem kFr_openM {w : World} {base : Nat} {ok : Nat → Prop} {x : SFr} {cs : List Value} (h : kFr.M w base ok x cs) : ∃ v1 v2, cs = [.int .i64 x.f0, v1, v2, .int .i64 x.f2, .bool x.f3] ∧ (Kd.int .i64).R 3 w base ok v1 x.f1.f0 ∧ (Kd.int .i64).R 3 w base ok v2 x.f1.f1 := by
  obtain ⟨_, _, rfl, rfl, ⟨_, _, rfl, s1, ⟨_, _, rfl, rfl, rfl⟩⟩⟩ := h
  obtain ⟨v1, v2, rfl, g1, g2⟩ := kTy_openM s1
  exact ⟨v1, v2, rfl, g1, g2⟩
theorem kFr_mkM (w : World) (base : Nat) (ok : Nat → Prop) (x : SFr) {v1 : Value} (g1 : (Kd.int .i64).R 3 w base ok v1 x.f1.f0) {v2 : Value} (g2 : (Kd.int .i64).R 3 w base ok v2 x.f1.f1) : kFr.M w base ok x [.int .i64 x.f0, v1, v2, .int .i64 x.f2, .bool x.f3] := ⟨[.int .i64 x.f0], [v1, v2, .int .i64 x.f2, .bool x.f3], rfl, rfl, ⟨[v1, v2], [.int .i64 x.f2, .bool x.f3], rfl, (kTy_mkM w base ok x.f1 g1 g2), ⟨[.int .i64 x.f2], [.bool x.f3], rfl, rfl, rfl⟩⟩⟩
def rd_TFr (xs : List SFr) (i : Int) : SFr := xs.getD i.toNat zFr
structure SSpan where
  f0 : Int
  f1 : Int
  f2 : Int
def zSpan : SSpan := ⟨(0 : Int), (0 : Int), (0 : Int)⟩
def kSpan : Kd SSpan := Kd.iso (Kd.pair (Kd.int .i64) (Kd.pair (Kd.int .i64) (Kd.int .i64))) (fun x : SSpan => (x.f0, x.f1, x.f2))
theorem kSpan_openM {w : World} {base : Nat} {ok : Nat → Prop} {x : SSpan} {cs : List Value} (h : kSpan.M w base ok x cs) : cs = [.int .i64 x.f0, .int .i64 x.f1, .int .i64 x.f2] := by
  obtain ⟨_, _, rfl, rfl, ⟨_, _, rfl, rfl, rfl⟩⟩ := h
  exact rfl
theorem kSpan_mkM (w : World) (base : Nat) (ok : Nat → Prop) (x : SSpan)  : kSpan.M w base ok x [.int .i64 x.f0, .int .i64 x.f1, .int .i64 x.f2] := ⟨[.int .i64 x.f0], [.int .i64 x.f1, .int .i64 x.f2], rfl, rfl, ⟨[.int .i64 x.f1], [.int .i64 x.f2], rfl, rfl, rfl⟩⟩
def rd_TSpan (xs : List SSpan) (i : Int) : SSpan := xs.getD i.toNat zSpan
end Go.Proofs.YthehihjcpiadgaaGreat
end
section
namespace Go.Proofs.YthehihjcpiadgaaGreat
open Go.RowKit Go.Proofs.YthehihjcpiadgaaGreatW.PrintWords
set_option linter.unusedVariables false
/-- A row of whole numbers: of the call's own, from block 'base' on. -/
abbrev IntsR (w : World) (base : Nat) (v : Value) (xs : List Int) : Prop := (Kd.int .i64).R 3 w base (fun _ => True) v xs
/-- A row of whole numbers that is read. -/
abbrev IntsC (w : World) (A : Option Addr) (xs : List Int) : Prop := (Kd.int .i64).C w A xs.length xs
theorem own_of_blk {w : World} {base g e : Nat} {xs : List Value} (hb : w.heap[g]? = some (.cells xs.toArray e (0, 0))) (hbase : base ≤ g) (hm : xs.length ≤ maxLen) : w.ownsRow base e 1 (.slice (some ⟨g, 0, none⟩) xs.length xs.length) xs.length xs := by
  refine ⟨by simp, .inr ⟨g, xs.length, xs.toArray, rfl, hbase, hb, ?_⟩⟩
  simp [hm]
theorem ints_of_blk {w : World} {base g : Nat} {xs : List Int} (hb : w.heap[g]? = some (.cells (encs (Value.int .i64) xs).toArray 3 (0, 0))) (hbase : base ≤ g) (hm : xs.length ≤ maxLen) : IntsR w base (.slice (some ⟨g, 0, none⟩) xs.length xs.length) xs := by
  have h := own_of_blk hb hbase (by simpa [encs] using hm)
  have e : (encs (Value.int .i64) xs).length = xs.length := by simp [encs]
  rw [e] at h
  exact Kd.R_of_own h (fun _ _ => trivial)
end Go.Proofs.YthehihjcpiadgaaGreat
end
section
namespace Go.Proofs.YthehihjcpiadgaaGreat
open Go.RowKit
set_option linter.unusedSimpArgs false
set_option maxHeartbeats 4000000 in
theorem check_there (n m : Int) (w : World) : Calls Tryz.prog 43 #[.int .i64 n, .int .i64 m] w fun e w' => e = .returned (.bool (Sp.within n 0 (m - 1))) ∧ w = w' := by
  go_enter Tryz.func43, Tryz.ntmps43
  go_wp2
  all_goals
    go_ret
    refine ⟨congrArg (fun b => Ending.returned (.bool b)) ?_, rfl⟩
    first | rfl | (rw [Bool.eq_iff_iff]; simp only [Sp.within, beq_iff_eq, bne_iff_ne, ne_eq, beq_eq_false_iff_ne, bne_eq_false_iff_eq, Bool.or_eq_true, Bool.and_eq_true, Bool.not_eq_true', decide_eq_true_eq, decide_eq_false_iff_not, true_iff, iff_true, false_iff, iff_false, Bool.false_eq_true] at *; omega)
set_option maxHeartbeats 4000000 in
theorem module_within (n m : Int) (w : World) : Calls Tryz.prog 137 #[.int .i64 n, .int .i64 m] w fun e w' => e = .returned (.bool (Sp.within n 0 (m - 1))) ∧ w = w' := by
  go_enter Tryz.func137, Tryz.ntmps137
  go_wp2
  all_goals
    go_ret
    refine ⟨congrArg (fun b => Ending.returned (.bool b)) ?_, rfl⟩
    first | rfl | (rw [Bool.eq_iff_iff]; simp only [Sp.within, beq_iff_eq, bne_iff_ne, ne_eq, beq_eq_false_iff_ne, bne_eq_false_iff_eq, Bool.or_eq_true, Bool.and_eq_true, Bool.not_eq_true', decide_eq_true_eq, decide_eq_false_iff_not, true_iff, iff_true, false_iff, iff_false, Bool.false_eq_true] at *; omega)
set_option maxHeartbeats 4000000 in
theorem ints_within (n a b : Int) (w : World) : Calls Tryz.prog 219 #[.int .i64 n, .int .i64 a, .int .i64 b] w fun e w' => e = .returned (.bool (Sp.within n a b)) ∧ w = w' := by
  go_enter Tryz.func219, Tryz.ntmps219
  go_wp2
  all_goals
    go_ret
    refine ⟨congrArg (fun b => Ending.returned (.bool b)) ?_, rfl⟩
    first | rfl | (rw [Bool.eq_iff_iff]; simp only [Sp.within, beq_iff_eq, bne_iff_ne, ne_eq, beq_eq_false_iff_ne, bne_eq_false_iff_eq, Bool.or_eq_true, Bool.and_eq_true, Bool.not_eq_true', decide_eq_true_eq, decide_eq_false_iff_not, true_iff, iff_true, false_iff, iff_false, Bool.false_eq_true] at *; omega)
set_option maxHeartbeats 4000000 in
theorem ops_Opens (op : Int) (w : World) : Calls Tryz.prog 87 #[.int .i64 op] w fun e w' => e = .returned (.bool (Sp.opens op)) ∧ w = w' := by
  go_enter Tryz.func87, Tryz.ntmps87
  go_wp2
  all_goals
    go_ret
    refine ⟨congrArg (fun b => Ending.returned (.bool b)) ?_, rfl⟩
    first | rfl | (rw [Bool.eq_iff_iff]; simp only [Sp.opens, Sp.within, beq_iff_eq, bne_iff_ne, ne_eq, beq_eq_false_iff_ne, bne_eq_false_iff_eq, Bool.or_eq_true, Bool.and_eq_true, Bool.not_eq_true', decide_eq_true_eq, decide_eq_false_iff_not, true_iff, iff_true, false_iff, iff_false, Bool.false_eq_true] at *; omega)
set_option maxHeartbeats 4000000 in
theorem module_index (t : Int) (w : World) : Calls Tryz.prog 67 #[.int .i64 t] w fun e w' => e = .returned (.bool (Sp.within t 0 2147483647)) ∧ w = w' := by
  go_enter Tryz.func67, Tryz.ntmps67
  go_wp2
  all_goals
    go_ret
    refine ⟨congrArg (fun b => Ending.returned (.bool b)) ?_, rfl⟩
    first | rfl | (rw [Bool.eq_iff_iff]; simp only [Sp.within, beq_iff_eq, bne_iff_ne, ne_eq, beq_eq_false_iff_ne, bne_eq_false_iff_eq, Bool.or_eq_true, Bool.and_eq_true, Bool.not_eq_true', decide_eq_true_eq, decide_eq_false_iff_not, true_iff, iff_true, false_iff, iff_false, Bool.false_eq_true] at *; omega)
set_option maxHeartbeats 4000000 in
theorem ints_Is (op : Int) (w : World) : Calls Tryz.prog 193 #[.int .i64 op] w fun e w' => e = .returned (.bool (Sp.isInt op)) ∧ w = w' := by
  go_enter Tryz.func193, Tryz.ntmps193
  go_wp2_with (first | (go_at_call 219; refine (ints_within _ _ _ _).mono ?_; rintro e w' ⟨rfl, rfl⟩))
  all_goals
    go_ret
    refine ⟨congrArg (fun b => Ending.returned (.bool b)) ?_, rfl⟩
    first | rfl | (rw [Bool.eq_iff_iff]; simp only [Sp.isInt, Sp.within, beq_iff_eq, bne_iff_ne, ne_eq, beq_eq_false_iff_ne, bne_eq_false_iff_eq, Bool.or_eq_true, Bool.and_eq_true, Bool.not_eq_true', decide_eq_true_eq, decide_eq_false_iff_not, true_iff, iff_true, false_iff, iff_false, Bool.false_eq_true] at *; omega)
set_option maxHeartbeats 4000000 in
theorem floats_Is (op : Int) (w : World) : Calls Tryz.prog 194 #[.int .i64 op] w fun e w' => e = .returned (.bool (Sp.isFlt op)) ∧ w = w' := by
  go_enter Tryz.func194, Tryz.ntmps194
  go_wp2
  all_goals
    go_ret
    refine ⟨congrArg (fun b => Ending.returned (.bool b)) ?_, rfl⟩
    first | rfl | (rw [Bool.eq_iff_iff]; simp only [Sp.isFlt, beq_iff_eq, bne_iff_ne, ne_eq, beq_eq_false_iff_ne, bne_eq_false_iff_eq, Bool.or_eq_true, Bool.and_eq_true, Bool.not_eq_true', decide_eq_true_eq, decide_eq_false_iff_not, true_iff, iff_true, false_iff, iff_false, Bool.false_eq_true] at *; omega)
set_option maxHeartbeats 4000000 in
theorem ref1_Is (op : Int) (w : World) : Calls Tryz.prog 41 #[.int .i64 op] w fun e w' => e = .returned (.bool (Sp.isInt op)) ∧ w = w' := by
  go_enter Tryz.func41, Tryz.ntmps41
  go_wp2
  all_goals
    go_ret
    refine ⟨congrArg (fun b => Ending.returned (.bool b)) ?_, rfl⟩
    first | rfl | (rw [Bool.eq_iff_iff]; simp only [Sp.isInt, beq_iff_eq, bne_iff_ne, ne_eq, beq_eq_false_iff_ne, bne_eq_false_iff_eq, Bool.or_eq_true, Bool.and_eq_true, Bool.not_eq_true', decide_eq_true_eq, decide_eq_false_iff_not, true_iff, iff_true, false_iff, iff_false, Bool.false_eq_true] at *; omega)
set_option maxHeartbeats 4000000 in
theorem ref2_Is (op : Int) (w : World) : Calls Tryz.prog 42 #[.int .i64 op] w fun e w' => e = .returned (.bool (Sp.isFlt op)) ∧ w = w' := by
  go_enter Tryz.func42, Tryz.ntmps42
  go_wp2
  all_goals
    go_ret
    refine ⟨congrArg (fun b => Ending.returned (.bool b)) ?_, rfl⟩
    first | rfl | (rw [Bool.eq_iff_iff]; simp only [Sp.isFlt, beq_iff_eq, bne_iff_ne, ne_eq, beq_eq_false_iff_ne, bne_eq_false_iff_eq, Bool.or_eq_true, Bool.and_eq_true, Bool.not_eq_true', decide_eq_true_eq, decide_eq_false_iff_not, true_iff, iff_true, false_iff, iff_false, Bool.false_eq_true] at *; omega)
set_option maxHeartbeats 4000000 in
theorem ref3_Rich (op : Int) (w : World) : Calls Tryz.prog 20 #[.int .i64 op] w fun e w' => e = .returned (.bool (Sp.rich op)) ∧ w = w' := by
  go_enter Tryz.func20, Tryz.ntmps20
  go_wp2
  all_goals
    go_ret
    refine ⟨congrArg (fun b => Ending.returned (.bool b)) ?_, rfl⟩
    first | rfl | (rw [Bool.eq_iff_iff]; simp only [Sp.rich, beq_iff_eq, bne_iff_ne, ne_eq, beq_eq_false_iff_ne, bne_eq_false_iff_eq, Bool.or_eq_true, Bool.and_eq_true, Bool.not_eq_true', decide_eq_true_eq, decide_eq_false_iff_not, true_iff, iff_true, false_iff, iff_false, Bool.false_eq_true] at *; omega)
set_option maxHeartbeats 4000000 in
theorem ops_Const (op : Int) (w : World) : Calls Tryz.prog 152 #[.int .i64 op] w fun e w' => e = .returned (.tuple #[.int .i64 (Sp.constT op), .bool (decide (Sp.constT op ≠ 0))]) ∧ w = w' := by
  go_enter Tryz.func152, Tryz.ntmps152
  go_wp2
  all_goals
    go_ret2
    refine ⟨congrArg (fun b : Int × Bool => Ending.returned (.tuple #[.int .i64 b.1, .bool b.2])) (a₁ := (_, _)) (a₂ := (Sp.constT op, decide (Sp.constT op ≠ 0))) ?_, rfl⟩
    simp_all [Sp.constT]
end Go.Proofs.YthehihjcpiadgaaGreat
end
section
namespace Go.Proofs.YthehihjcpiadgaaGreat
open Go.RowKit
set_option linter.unusedSimpArgs false
set_option linter.unusedVariables false
theorem results_tmp4 {fn : Func} {t u v x : Tmp} (h : fn.results = #[.tmp t, .tmp u, .tmp v, .tmp x]) (tmps : Array Value) (P : Program) (w : World) :
    (results fn tmps).run P w = .ok (.tuple #[tmps.getD t undef, tmps.getD u undef, tmps.getD v undef, tmps.getD x undef]) w := by
  simp [results, h]
set_option maxRecDepth 100000 in
set_option maxHeartbeats 4000000 in
theorem ops_Access (op : Int) (w : World) : Calls Tryz.prog 88 #[.int .i64 op] w fun e w' => e = .returned (.tuple #[.int .i64 (Sp.accN op), .int .i64 (Sp.accT0 op), .bool (Sp.accS op), .bool (Sp.accB op)]) ∧ w = w' := by
  go_enter Tryz.func88, Tryz.ntmps88
  go_wp2
  all_goals
    (try simp only [Exit.inBlock, Exit.then])
    refine bodyPost_ret (results_tmp4 rfl _ _ _) rfl ⟨?_, rfl⟩
    refine congrArg (fun b : Int × Int × Bool × Bool => Ending.returned (Value.tuple #[.int .i64 b.1, .int .i64 b.2.1, .bool b.2.2.1, .bool b.2.2.2])) (a₁ := (_, _, _, _)) (a₂ := (Sp.accN op, Sp.accT0 op, Sp.accS op, Sp.accB op)) ?_
    simp_all [Sp.accN, Sp.accT, Sp.accT0, Sp.accS, Sp.accB]
end Go.Proofs.YthehihjcpiadgaaGreat
end
section
namespace Go.Proofs.YthehihjcpiadgaaGreat
open Go.RowKit Go.Proofs.YthehihjcpiadgaaGreatW.PrintWords
set_option linter.unusedSimpArgs false
set_option linter.unusedVariables false
theorem alloc_at {w : World} {o : Obj} {k : Nat} (h : k = w.heap.size) : (w.alloc o).heap[k]? = some o := h ▸ heap_alloc_new w o
theorem alloc_lt {w : World} {o : Obj} {k : Nat} (h : k < w.heap.size) : (w.alloc o).heap[k]? = w.heap[k]? := Below.heap_alloc w o k h
theorem max_small {n : Nat} (h : n ≤ 1000000) : n ≤ maxLen := by unfold maxLen; omega
theorem ops_one (a b : Int) (w : World) : Calls Tryz.prog 198 #[.int .i64 a, .int .i64 b] w fun e w' => e = .returned (.agg #[.slice (some ⟨w.heap.size + 1, 0, none⟩) 1 1, .slice (some ⟨w.heap.size + 1 + 1, 0, none⟩) 1 1]) ∧ w' = ((w.alloc (.cells #[.slice (some ⟨w.heap.size + 1, 0, none⟩) 1 1, .slice (some ⟨w.heap.size + 1 + 1, 0, none⟩) 1 1] 178)).alloc (.cells #[.int .i64 a] 3)).alloc (.cells #[.int .i64 b] 3) := by
  go_enter Tryz.func198, Tryz.ntmps198
  go_wp2
  refine bodyPost_ret (v := .agg #[.slice (some ⟨w.heap.size + 1, 0, none⟩) 1 1, .slice (some ⟨w.heap.size + 1 + 1, 0, none⟩) 1 1]) ?_ rfl ⟨rfl, rfl⟩
  simp [results, Tryz.results198, go_sem]
theorem ops_two (a b : Int) (w : World) : Calls Tryz.prog 199 #[.int .i64 a, .int .i64 b] w fun e w' => e = .returned (.agg #[.slice (some ⟨w.heap.size + 1, 0, none⟩) 2 2, .slice (some ⟨w.heap.size + 1 + 1, 0, none⟩) 1 1]) ∧ w' = ((w.alloc (.cells #[.slice (some ⟨w.heap.size + 1, 0, none⟩) 2 2, .slice (some ⟨w.heap.size + 1 + 1, 0, none⟩) 1 1] 178)).alloc (.cells #[.int .i64 a, .int .i64 a] 3)).alloc (.cells #[.int .i64 b] 3) := by
  go_enter Tryz.func199, Tryz.ntmps199
  go_wp2
  refine bodyPost_ret (v := .agg #[.slice (some ⟨w.heap.size + 1, 0, none⟩) 2 2, .slice (some ⟨w.heap.size + 1 + 1, 0, none⟩) 1 1]) ?_ rfl ⟨rfl, rfl⟩
  simp [results, Tryz.results199, go_sem]
/-- What comes of asking what an op takes and gives. -/
def SigEnd (ok : Bool) (P R : List Int) (w : World) (e : Ending) (w' : World) : Prop :=
  ∃ v1 v2, e = .returned (.tuple #[.agg #[v1, v2], .bool ok]) ∧ IntsR w' w.heap.size v1 P ∧ IntsR w' w.heap.size v2 R ∧ Below w.heap.size w w'
theorem sig_close {w W : World} {g1 g2 : Nat} (P R : List Int) {ok ok' : Bool} {P' R' : List Int} (h1 : W.heap[g1]? = some (.cells (encs (Value.int .i64) P).toArray 3 (0, 0))) (h2 : W.heap[g2]? = some (.cells (encs (Value.int .i64) R).toArray 3 (0, 0)))
    (l1 : P.length ≤ 1000000) (l2 : R.length ≤ 1000000) (b1 : w.heap.size ≤ g1) (b2 : w.heap.size ≤ g2) (hb : Below w.heap.size w W) (hx : (ok, P, R) = (ok', P', R')) :
    SigEnd ok' P' R' w (.returned (.tuple #[.agg #[.slice (some ⟨g1, 0, none⟩) P.length P.length, .slice (some ⟨g2, 0, none⟩) R.length R.length], .bool ok])) W := by
  injection hx with e1 e2
  injection e2 with e2 e3
  subst e1 e2 e3
  exact ⟨_, _, rfl, ints_of_blk h1 b1 (max_small l1), ints_of_blk h2 b2 (max_small l2), hb⟩
theorem sig_none {w W : World} {ok' : Bool} {P' R' : List Int} (hb : Below w.heap.size w W) (hx : (false, ([] : List Int), ([] : List Int)) = (ok', P', R')) :
    SigEnd ok' P' R' w (.returned (.tuple #[.agg #[.slice none 0 0, .slice none 0 0], .bool false])) W := by
  injection hx with e1 e2
  injection e2 with e2 e3
  subst e1 e2 e3
  exact ⟨_, _, rfl, Kd.R_nil _ _ _ _ _, Kd.R_nil _ _ _ _ _, hb⟩
theorem intsR_set {w : World} {base : Nat} {v : Value} {xs : List Int} (h : IntsR w base v xs) {p : Addr} (hp : p.block < base) (u : Value) : IntsR (w.setCell p u) base v xs :=
  Kd.R_mono (Kd.R_far (Kd.R_bound h) (fun k hk => by have := hk.2.1; omega) u) (fun _ _ => trivial)
set_option maxHeartbeats 4000000 in
theorem ops_turns (op : Int) (w : World) : Calls Tryz.prog 197 #[.int .i64 op] w (SigEnd (Sp.turnB op) (Sp.turnP op) (Sp.turnR op) w) := by
  go_enter Tryz.func197, Tryz.ntmps197
  go_wp2_with (go_at_call 198; refine (ops_one _ _ _).mono ?_; rintro e w' ⟨rfl, rfl⟩)
  all_goals
    refine bodyPost_ret (v := _) (by simp [results, Tryz.results197, go_sem]; rfl) rfl ?_
    first
    | (refine sig_close [_] [_] (by repeat (first | (refine alloc_at ?_; (simp; done)) | (refine (alloc_lt ?_).trans ?_; · (simp <;> omega)))) (by repeat (first | (refine alloc_at ?_; (simp; done)) | (refine (alloc_lt ?_).trans ?_; · (simp <;> omega)))) (by simp) (by simp) (by omega) (by omega) (by repeat (first | exact Below.refl _ _ | refine below_alloc ?_ _)) ?_; simp_all [Sp.turnP, Sp.turnR, Sp.turnB, Sp.numP, Sp.numR, Sp.numR1, Sp.numA, Sp.numC, Sp.numB, Sp.isInt, Sp.isFlt])
    | (have ht : Sp.turnB op = false := (by simp only [Sp.turnB, decide_eq_false_iff_not, beq_eq_false_iff_ne, ne_eq] at *; omega)
       refine sig_none (by repeat (first | exact Below.refl _ _ | refine below_alloc ?_ _)) ?_; simp [Sp.turnP, Sp.turnR, ht])
end Go.Proofs.YthehihjcpiadgaaGreat
end
section
namespace Go.Proofs.YthehihjcpiadgaaGreat
open Go.RowKit Go.Proofs.YthehihjcpiadgaaGreatW.PrintWords
set_option linter.unusedSimpArgs false
set_option linter.unusedVariables false
theorem take_step {xs ys : List Int} {k : Nat} (h : xs.take k = ys.take k) (hx : k < xs.length) (hy : k < ys.length) (he : xs.getD k 0 = ys.getD k 0) : xs.take (k + 1) = ys.take (k + 1) := by
  rw [List.take_succ_eq_append_getElem hx, List.take_succ_eq_append_getElem hy, h]
  simp [List.getD_eq_getElem?_getD, hx, hy] at he
  rw [he]
theorem take_all {xs ys : List Int} (h : xs.take xs.length = ys.take xs.length) (hl : xs.length = ys.length) : xs = ys := by
  rw [List.take_of_length_le (Nat.le_refl _), hl, List.take_of_length_le (Nat.le_refl _)] at h
  exact h
theorem dd (w : World) (m n : Nat) : (w.drewN m).drewN n = w.drewN (m + n) := by simp
/-- A yes or no; some draws were made. -/
def BoolDraws (b : Bool) (w : World) (e : Ending) (w' : World) : Prop := e = .returned (.bool b) ∧ ∃ n, w' = w.drewN n
set_option maxHeartbeats 1000000 in
theorem slices_Equal (A B : Option Addr) (cA cB : Nat) (xs ys : List Int) (w : World) (hx : IntsC w A xs) (hy : IntsC w B ys) :
    Calls Tryz.prog 148 #[.slice A xs.length cA, .slice B ys.length cB] w (BoolDraws (decide (xs = ys)) w) := by
  have mx := Kd.C_max hx
  have HX := Lib.hid hx; have HY := Lib.hid hy; clear hx hy
  by_cases hl : xs.length = ys.length
  · have hl1 : ((xs.length : Int) != (ys.length : Int)) = false := by simp [hl]
    have HL := Lib.hid hl; clear hl
    go_enter Tryz.func148, Tryz.ntmps148
    go_wp2
    go_loopw [13] (fun i wr => ∃ k m : Nat, k ≤ xs.length ∧ i = .int .i64 k ∧ Hid (xs.take k = ys.take k) ∧ wr = w.drewN m) (fun i _ => xs.length - (intOf i).toNat)
    case atStart => exact ⟨0, 0, by omega, rfl, Lib.hid rfl, rfl⟩
    case round =>
      obtain ⟨k, m, hk, rfl, ht, rfl⟩ := hrel
      by_cases hlt : k < xs.length
      · have hlt2 : k < ys.length := by have := HL.out; omega
        obtain ⟨ad, e1, hc1⟩ := Kd.at_int HX.out (k : Int) (by omega) (by omega)
        obtain ⟨bd, e2, hc2⟩ := Kd.at_int HY.out (k : Int) (by omega) (by omega)
        subst e1 e2
        rw [Int.toNat_natCast] at hc1 hc2
        have d1 : (w.drewN m).cell? (ad.add k) = some (.int .i64 (rd xs k)) := hc1
        have d2 : (w.drewN m).cell? (bd.add k) = some (.int .i64 (rd ys k)) := hc2
        by_cases he : rd xs k = rd ys k
        · have he1 : (rd xs k != rd ys k) = false := by simp [he]
          have HE := Lib.hid he; clear he
          go_wp2
          go_quiet (fail)
          go_wp2
          go_roundw
          case rel => exact ⟨k + 1, _, by omega, by go_num, Lib.hid (take_step ht.out hlt hlt2 (by have := HE.out; simpa [rd] using this)), rfl⟩
          case measure => simp [intOf]; omega
        · have he1 : (rd xs k != rd ys k) = true := by simp [he]
          have HE := Lib.hid he; clear he
          go_wp2
          go_quiet (fail)
          go_wp2
          go_ret
          refine ⟨congrArg (fun b => Ending.returned (.bool b)) ?_, _, dd _ _ _⟩
          symm
          rw [decide_eq_false_iff_not]
          rintro rfl
          exact HE.out rfl
      · go_wp2
        go_ret
        refine ⟨congrArg (fun b => Ending.returned (.bool b)) ?_, _, rfl⟩
        symm
        rw [decide_eq_true_iff]
        have : k = xs.length := by omega
        subst this
        exact take_all ht.out HL.out
  · have hl1 : ((xs.length : Int) != (ys.length : Int)) = true := by simp; omega
    have HL := Lib.hid hl; clear hl
    go_enter Tryz.func148, Tryz.ntmps148
    go_wp2
    go_ret
    refine ⟨congrArg (fun b => Ending.returned (.bool b)) ?_, 0, rfl⟩
    symm
    rw [decide_eq_false_iff_not]
    rintro rfl
    exact HL.out rfl
end Go.Proofs.YthehihjcpiadgaaGreat
end
section
namespace Go.Proofs.YthehihjcpiadgaaGreat
open Go.RowKit Go.Proofs.YthehihjcpiadgaaGreatW.PrintWords
set_option linter.unusedSimpArgs false
set_option linter.unusedVariables false
theorem infoInt : (Tryz.prog.info? 3).map (fun i => (i.zero, i.size, i.bytes)) = some (some (.int .i64 0), (Kd.int .i64).sz, 8) := by kernel_rfl
/-- A row of whole numbers of one's own comes back; memory was made alone. -/
def IntsEnd (xs : List Int) (w : World) (e : Ending) (w' : World) : Prop := ∃ v, e = .returned v ∧ IntsR w' w.heap.size v xs ∧ Below w.heap.size w w'
theorem slices_Clone (A : Option Addr) (c : Nat) (xs : List Int) (w : World) (hx : IntsC w A xs) (hl : xs.length * 8 ≤ 140737488355328) :
    Calls Tryz.prog 51 #[.slice A xs.length c] w (IntsEnd xs w) := by
  cases A with
  | none =>
    have e0 : xs = [] := by
      rcases Nat.eq_zero_or_pos xs.length with h | h
      · exact List.eq_nil_of_length_eq_zero h
      · obtain ⟨ad, h, _⟩ := hx.2.2 h
        cases h
    subst e0
    clear hx hl
    have he : ∀ w : World, (binOp .eql 23 (.slice none 0 c) (.slice none 0 0)).run Tryz.prog w = .ok (.bool true) w := fun (w : World) => Lib.run_eql_slice_nil (P := Tryz.prog) w 23 3 none 0 c 0 0 Tryz.underlying23
    go_enter Tryz.func51, Tryz.ntmps51
    go_wp2
    go_ret
    exact ⟨_, rfl, Kd.R_nil _ _ _ _ _, Below.refl _ _⟩
  | some ad =>
    have he : ∀ w : World, (binOp .eql 23 (.slice (some ad) xs.length c) (.slice none 0 0)).run Tryz.prog w = .ok (.bool false) w := fun (w : World) => Lib.run_eql_slice_nil (P := Tryz.prog) w 23 3 (some ad) xs.length c 0 0 Tryz.underlying23
    have HX := Lib.hid hx; have HL := Lib.hid hl; clear hx hl
    go_enter Tryz.func51, Tryz.ntmps51
    go_wp2_with (at_builtin; (refine Kd.R_append_rows (Kd.int .i64) (w0 := w) w.heap.size rfl (.tmp 5) (.tmp 6) 23 3 (.int .i64 0) 8 rfl Tryz.underlying23 infoInt rfl Nat.zero_lt_one (Nat.zero_lt_succ 7) _ [] xs (some ad) xs.length c (fun _ => True) (fun _ => False) rfl rfl ?ho ?hr (fun _ _ h => h) (fun _ h => h.elim) (fun _ _ => trivial) ?hb ?hsz ?hl2 ?_); (case ho => exact ints_of_blk (xs := []) (alloc_at rfl) (Nat.le_refl _) (max_small (by simp))); (case hr => exact Kd.C_alloc HX.out _); (case hb => exact below_alloc (Below.refl _ _) _); (case hsz => simp); (case hl2 => have := HL.out; simpa using this); intro v1 w1 hR hB hG hat)
    go_wp2
    go_ret
    exact ⟨_, rfl, hR, hB⟩
end Go.Proofs.YthehihjcpiadgaaGreat
end
section
namespace Go.Proofs.YthehihjcpiadgaaGreat
open Go.RowKit Go.Proofs.YthehihjcpiadgaaGreatW.PrintWords
set_option linter.unusedSimpArgs false
set_option linter.unusedVariables false
/-- All old cells and marks read as before, behind a call that makes memory alone. -/
theorem bcell {W w1 : World} (hb : Below W.heap.size W w1) : (∀ b o, b < W.heap.size → w1.cell? ⟨b, o, none⟩ = W.cell? ⟨b, o, none⟩) ∧ (∀ b o, b < W.heap.size → w1.frozen? ⟨b, o, none⟩ = W.frozen? ⟨b, o, none⟩) :=
  ⟨fun b o h => hb.cell (p := ⟨b, o, none⟩) h, fun b o h => hb.frozen (p := ⟨b, o, none⟩) h⟩
theorem intsR_lower {w : World} {base b : Nat} {v : Value} {xs : List Int} (h : IntsR w base v xs) (hb : b ≤ base) : IntsR w b v xs := Kd.R_lower h hb
set_option maxHeartbeats 4000000 in
theorem ops_Numeric_turn (op : Int) (w : World) (ht : Sp.turnB op = true) (bi : Bool) (hbi : Sp.isInt op = bi) : Calls Tryz.prog 153 #[.int .i64 op] w (SigEnd (Sp.numB op) (Sp.numP op) (Sp.numR op) w) := by
  have hn := Sp.turn_num op ht
  have c0 : ∀ w, Calls Tryz.prog 193 #[.int .i64 op] w (fun e w' => e = .returned (.bool bi) ∧ w = w') := fun w => by rw [← hbi]; exact ints_Is op w
  have c1 : ∀ w, Calls Tryz.prog 197 #[.int .i64 op] w (SigEnd true (Sp.numP op) (Sp.numR op) w) := fun w => by
    have := ops_turns op w
    rwa [ht, show Sp.turnP op = Sp.numP op by simp [Sp.turnP, ht], show Sp.turnR op = Sp.numR op by simp [Sp.turnR, ht]] at this
  have c2 : bi = false → ∀ w, Calls Tryz.prog 194 #[.int .i64 op] w (fun e w' => e = .returned (.bool true) ∧ w = w') := fun h w => by
    have := floats_Is op w
    rwa [show Sp.isFlt op = true by rw [Sp.numB, hbi, h] at hn; simpa using hn] at this
  rw [hn]
  have H0 := Lib.hid c0; have H1 := Lib.hid c1; clear c0 c1 hn ht hbi
  generalize Sp.numP op = P at *
  generalize Sp.numR op = R at *
  cases bi
  all_goals
    first | have H2 := Lib.hid (c2 rfl) | have H2 : Hid True := Lib.hid trivial
    clear c2
    go_enter Tryz.func153, Tryz.ntmps153
    go_wp2_with (first | (go_at_call 193; refine (H0.out _).mono ?_; rintro e w' ⟨rfl, rfl⟩) | (go_at_call 194; refine (H2.out _).mono ?_; rintro e w' ⟨rfl, rfl⟩))
    refine (H1.out _).mono ?_
    rintro e w1 ⟨v1, v2, rfl, h1, h2, hb⟩
    obtain ⟨A1, k1, rfl⟩ := Kd.R_slice h1
    obtain ⟨A2, k2, rfl⟩ := Kd.R_slice h2
    obtain ⟨hc, hf⟩ := bcell hb
    have hz : w.heap.size < w1.heap.size := by have := hb.size; simp at this; omega
    have hz1 : ¬ w.heap.size = w1.heap.size := by omega
    have hz2 : ¬ w1.heap.size = w.heap.size := by omega
    have f0 : w1.cell? ⟨w.heap.size, 0, none⟩ = some (.slice none 0 0) := (hc _ _ (by simp)).trans (by simp [go_sem])
    have f1 : w1.cell? ⟨w.heap.size, 1, none⟩ = some (.slice none 0 0) := (hc _ _ (by simp)).trans (by simp [go_sem])
    have f2 : w1.frozen? ⟨w.heap.size, 0, none⟩ = false := (hf _ _ (by simp)).trans (by simp [go_sem])
    have f3 : w1.frozen? ⟨w.heap.size, 1, none⟩ = false := (hf _ _ (by simp)).trans (by simp [go_sem])
    clear hc hf
    have G1 := Lib.hid (intsR_lower (b := w.heap.size + 1) h1 (by simp)); have G2 := Lib.hid (intsR_lower (b := w.heap.size + 1) h2 (by simp)); have GB := Lib.hid hb; clear h1 h2 hb
    go_wp2_with fail
    refine bodyPost_ret (v := _) (by simp [results, Tryz.results153, go_sem, hz, hz1, hz2, f0, f1] <;> rfl) rfl ?_
    exact ⟨_, _, rfl, intsR_lower (base := w.heap.size + 1) (by repeat (first | exact G1.out | apply Kd.R_alloc | apply Kd.R_drewN | (refine intsR_set ?_ ?_ _; rotate_left; · (show _ < _; simp)))) (by omega), intsR_lower (base := w.heap.size + 1) (by repeat (first | exact G2.out | apply Kd.R_alloc | apply Kd.R_drewN | (refine intsR_set ?_ ?_ _; rotate_left; · (show _ < _; simp)))) (by omega), (by repeat (first | exact Below.refl _ _ | refine below_step ?_ GB.out | refine below_alloc ?_ _ | apply pw_below_drewN | (refine below_set ?_ ?_; rotate_left; · (first | omega | (simp; done) | (simp; omega)))))⟩
theorem num_close {op c a r : Int} {P R : List Int} (hn : Sp.numB op = true) (hc : Sp.numC op = c) (ha : Sp.numA op = a) (hr : Sp.numR1 op = r) (hP : (if c = 1 then [a] else [a, a]) = P) (hR : [r] = R) : (true, P, R) = (Sp.numB op, Sp.numP op, Sp.numR op) := by
  subst hc ha hr hP hR
  simp [Sp.numP, Sp.numR, hn]
theorem blk_close {w W : World} {g1 g2 : Nat} (P R : List Int) {v1 v2 : Value} (e1 : v1 = .slice (some ⟨g1, 0, none⟩) P.length P.length) (e2 : v2 = .slice (some ⟨g2, 0, none⟩) R.length R.length) (h1 : W.heap[g1]? = some (.cells (encs (Value.int .i64) P).toArray 3 (0, 0))) (h2 : W.heap[g2]? = some (.cells (encs (Value.int .i64) R).toArray 3 (0, 0)))
    (l1 : P.length ≤ 1000000) (l2 : R.length ≤ 1000000) (b1 : w.heap.size ≤ g1) (b2 : w.heap.size ≤ g2) (hb : Below w.heap.size w W) {op : Int} (hx : (true, P, R) = (Sp.numB op, Sp.numP op, Sp.numR op)) :
    SigEnd (Sp.numB op) (Sp.numP op) (Sp.numR op) w (.returned (.tuple #[.agg #[v1, v2], .bool true])) W := by
  subst e1 e2
  exact sig_close P R h1 h2 l1 l2 b1 b2 hb hx
set_option maxHeartbeats 8000000 in
theorem ops_Numeric_range (op : Int) (w : World) (ht : Sp.turnB op = false) (bi : Bool) (hbi : Sp.isInt op = bi) (hn : Sp.numB op = true) : Calls Tryz.prog 153 #[.int .i64 op] w (SigEnd (Sp.numB op) (Sp.numP op) (Sp.numR op) w) := by
  have c0 : ∀ w, Calls Tryz.prog 193 #[.int .i64 op] w (fun e w' => e = .returned (.bool bi) ∧ w = w') := fun w => by rw [← hbi]; exact ints_Is op w
  have c1 : ∀ w, Calls Tryz.prog 197 #[.int .i64 op] w (SigEnd false [] [] w) := fun w => by
    have := ops_turns op w
    rwa [ht, show Sp.turnP op = [] by simp [Sp.turnP, ht], show Sp.turnR op = [] by simp [Sp.turnR, ht]] at this
  have c2 : bi = false → ∀ w, Calls Tryz.prog 194 #[.int .i64 op] w (fun e w' => e = .returned (.bool true) ∧ w = w') := fun h w => by
    have := floats_Is op w
    rwa [show Sp.isFlt op = true by rw [Sp.numB, hbi, h] at hn; simpa using hn] at this
  have hq : (69 ≤ op ∧ op ≤ 90) ∨ (97 ≤ op ∧ op ≤ 138) ∨ (153 ≤ op ∧ op ≤ 166) := by
    simp only [Sp.numB, Sp.isInt, Sp.isFlt, Sp.turnB, Bool.or_eq_true, decide_eq_true_eq, decide_eq_false_iff_not] at hn ht
    omega
  have HN := Lib.hid hn
  have H0 := Lib.hid c0; have H1 := Lib.hid c1; clear c0 c1 hn ht hbi
  have HQ := Lib.hid hq; clear hq
  cases bi
  all_goals
    first | have H2 := Lib.hid (c2 rfl) | have H2 : Hid True := Lib.hid trivial
    clear c2
    go_enter Tryz.func153, Tryz.ntmps153
    go_wp2_with (first | (go_at_call 193; refine (H0.out _).mono ?_; rintro e w' ⟨rfl, rfl⟩) | (go_at_call 194; refine (H2.out _).mono ?_; rintro e w' ⟨rfl, rfl⟩))
    refine (H1.out _).mono ?_
    rintro e w1 ⟨v1, v2, rfl, h1, h2, hb⟩
    obtain ⟨A1, k1, rfl⟩ := Kd.R_slice h1
    obtain ⟨A2, k2, rfl⟩ := Kd.R_slice h2
    obtain ⟨hc, hf⟩ := bcell hb
    have hz : w.heap.size < w1.heap.size := by have := hb.size; simp at this; omega
    have hz1 : ¬ w.heap.size = w1.heap.size := by omega
    have hz2 : ¬ w1.heap.size = w.heap.size := by omega
    have hy1 : ¬ w.heap.size = w1.heap.size + 1 := by omega
    have hx1 : w.heap.size < w1.heap.size + 1 := by omega
    have hy2 : ¬ w.heap.size = w1.heap.size + 1 + 1 := by omega
    have hx2 : w.heap.size < w1.heap.size + 1 + 1 := by omega
    have hy3 : ¬ w.heap.size = w1.heap.size + 1 + 1 + 1 := by omega
    have hx3 : w.heap.size < w1.heap.size + 1 + 1 + 1 := by omega
    have hy4 : ¬ w.heap.size = w1.heap.size + 1 + 1 + 1 + 1 := by omega
    have hx4 : w.heap.size < w1.heap.size + 1 + 1 + 1 + 1 := by omega
    have f0 : w1.cell? ⟨w.heap.size, 0, none⟩ = some (.slice none 0 0) := (hc _ _ (by simp)).trans (by simp [go_sem])
    have f1 : w1.cell? ⟨w.heap.size, 1, none⟩ = some (.slice none 0 0) := (hc _ _ (by simp)).trans (by simp [go_sem])
    have f2 : w1.frozen? ⟨w.heap.size, 0, none⟩ = false := (hf _ _ (by simp)).trans (by simp [go_sem])
    have f3 : w1.frozen? ⟨w.heap.size, 1, none⟩ = false := (hf _ _ (by simp)).trans (by simp [go_sem])
    clear hc hf
    have GB := Lib.hid hb; clear h1 h2 hb
    go_wp2_with (first | (go_at_call 198; refine (ops_one _ _ _).mono ?_; rintro e w' ⟨rfl, rfl⟩) | (go_at_call 199; refine (ops_two _ _ _).mono ?_; rintro e w' ⟨rfl, rfl⟩))
    all_goals
      refine bodyPost_ret (v := _) (by simp [results, Tryz.results153, go_sem, hz, hz1, hz2, hy1, hy2, hy3, hy4, hx1, hx2, hx3, hx4, f0, f1] <;> rfl) rfl ?_
      have hq := HQ.out
      have hn := HN.out
      simp only [beq_iff_eq, beq_eq_false_iff_ne, ne_eq, decide_eq_true_eq, decide_eq_false_iff_not, Bool.or_eq_true, Bool.and_eq_true, Int.not_lt, Int.not_le] at *
      first
      | (refine blk_close [_] [_] rfl rfl (by repeat (first | (refine alloc_at ?_; (simp; done)) | (refine (alloc_lt ?_).trans ?_; · (simp <;> omega)))) (by repeat (first | (refine alloc_at ?_; (simp; done)) | (refine (alloc_lt ?_).trans ?_; · (simp <;> omega)))) (by simp) (by simp) (by omega) (by omega) (by repeat (first | exact Below.refl _ _ | refine below_step ?_ GB.out | refine below_alloc ?_ _ | apply pw_below_drewN | (refine below_set ?_ ?_; rotate_left; · (first | omega | (simp; done) | (simp; omega))))) ?_
         refine num_close hn (c := 1) ?_ ?_ ?_ rfl rfl
         · unfold Sp.numC; (repeat' split) <;> omega
         · unfold Sp.numA; (repeat' split) <;> omega
         · unfold Sp.numR1; (repeat' split) <;> omega)
      | (refine blk_close [_, _] [_] rfl rfl (by repeat (first | (refine alloc_at ?_; (simp; done)) | (refine (alloc_lt ?_).trans ?_; · (simp <;> omega)))) (by repeat (first | (refine alloc_at ?_; (simp; done)) | (refine (alloc_lt ?_).trans ?_; · (simp <;> omega)))) (by simp) (by simp) (by omega) (by omega) (by repeat (first | exact Below.refl _ _ | refine below_step ?_ GB.out | refine below_alloc ?_ _ | apply pw_below_drewN | (refine below_set ?_ ?_; rotate_left; · (first | omega | (simp; done) | (simp; omega))))) ?_
         refine num_close hn (c := 2) ?_ ?_ ?_ rfl rfl
         · unfold Sp.numC; (repeat' split) <;> omega
         · unfold Sp.numA; (repeat' split) <;> omega
         · unfold Sp.numR1; (repeat' split) <;> omega)
      | (exfalso; omega)
end Go.Proofs.YthehihjcpiadgaaGreat
end
section
namespace Go.Proofs.YthehihjcpiadgaaGreat
open Go.RowKit Go.Proofs.YthehihjcpiadgaaGreatW.PrintWords
set_option linter.unusedSimpArgs false
set_option linter.unusedVariables false
/-- A type whose rows are of one's own comes back; memory was made alone. -/
def TyEnd (xs ys : List Int) (w : World) (e : Ending) (w' : World) : Prop := ∃ v1 v2, e = .returned (.agg #[v1, v2]) ∧ IntsR w' w.heap.size v1 xs ∧ IntsR w' w.heap.size v2 ys ∧ Below w.heap.size w w'
set_option maxHeartbeats 2000000 in
theorem module_own (A B : Option Addr) (c d : Nat) (xs ys : List Int) (w : World) (hx : IntsC w A xs) (hy : IntsC w B ys) (lx : xs.length * 8 ≤ 140737488355328) (ly : ys.length * 8 ≤ 140737488355328) :
    Calls Tryz.prog 141 #[.agg #[.slice A xs.length c, .slice B ys.length d]] w (TyEnd xs ys w) := by
  have HX := Lib.hid hx; have HY := Lib.hid hy; have LX := Lib.hid lx; have LY := Lib.hid ly; clear hx hy lx ly
  go_enter Tryz.func141, Tryz.ntmps141
  go_wp2
  go_region_held3 (fun w' => w'.cell? ⟨w.heap.size, 0, none⟩ = some (.slice A xs.length c) ∧ w'.cell? ⟨w.heap.size, 1, none⟩ = some (.slice B ys.length d))
    (first | (go_keep; done) | (go_split_ands; exact ⟨(hbca _ _ (by first | (simp; done) | (simp; omega) | omega)).trans (by assumption), (hbca _ _ (by first | (simp; done) | (simp; omega) | omega)).trans (by assumption)⟩))
    (first
    | ((go_at_call 51); (with_reducible refine (slices_Clone A c xs _ ?hc LX.out).mono ?_); (case hc => (with_reducible repeat (first | exact HX.out | apply Kd.C_alloc | apply Kd.C_drew | apply Kd.C_drewN | exact Kd.C_below (by repeat (first | exact HX.out | apply Kd.C_alloc | apply Kd.C_drew | apply Kd.C_drewN)) HB2.out))); rintro e w1 ⟨v1, rfl, h1, hb1⟩; obtain ⟨P1, k1, rfl⟩ := Kd.R_slice h1; obtain ⟨hbca, hbcb⟩ := bcell hb1; have z1 : w.heap.size + 1 < w1.heap.size := (by have := hb1.size; first | omega | (simp at this; omega)); have f10 : w1.cell? ⟨w.heap.size + 1, 0, none⟩ = some (.slice none 0 0) := (hbca _ _ (by first | (simp; done) | (simp; omega) | omega)).trans (by first | (simp [go_sem]; done) | assumption); have f11 : w1.cell? ⟨w.heap.size + 1, 1, none⟩ = some (.slice none 0 0) := (hbca _ _ (by first | (simp; done) | (simp; omega) | omega)).trans (by first | (simp [go_sem]; done) | assumption); have f12 : w1.frozen? ⟨w.heap.size + 1, 0, none⟩ = false := (hbcb _ _ (by first | (simp; done) | (simp; omega) | omega)).trans (by first | (simp [go_sem]; done) | assumption); have f13 : w1.frozen? ⟨w.heap.size + 1, 1, none⟩ = false := (hbcb _ _ (by first | (simp; done) | (simp; omega) | omega)).trans (by first | (simp [go_sem]; done) | assumption); have R1 := Lib.hid h1; have HB1 := Lib.hid hb1; clear h1 hb1)
    | ((go_at_call 51); (with_reducible refine (slices_Clone B d ys _ ?hc LY.out).mono ?_); (case hc => (with_reducible repeat (first | exact HY.out | apply Kd.C_alloc | apply Kd.C_drew | apply Kd.C_drewN | exact Kd.C_below (by repeat (first | exact HY.out | apply Kd.C_alloc | apply Kd.C_drew | apply Kd.C_drewN)) HB1.out))); rintro e w2 ⟨v2, rfl, h2, hb2⟩; obtain ⟨P2, k2, rfl⟩ := Kd.R_slice h2; obtain ⟨hbca, hbcb⟩ := bcell hb2; have z2 : w.heap.size + 1 < w2.heap.size := (by have := hb2.size; first | omega | (simp at this; omega)); have f20 : w2.cell? ⟨w.heap.size + 1, 0, none⟩ = some (.slice none 0 0) := (hbca _ _ (by first | (simp; done) | (simp; omega) | omega)).trans (by first | (simp [go_sem]; done) | assumption); have f21 : w2.cell? ⟨w.heap.size + 1, 1, none⟩ = some (.slice none 0 0) := (hbca _ _ (by first | (simp; done) | (simp; omega) | omega)).trans (by first | (simp [go_sem]; done) | assumption); have f22 : w2.frozen? ⟨w.heap.size + 1, 0, none⟩ = false := (hbcb _ _ (by first | (simp; done) | (simp; omega) | omega)).trans (by first | (simp [go_sem]; done) | assumption); have f23 : w2.frozen? ⟨w.heap.size + 1, 1, none⟩ = false := (hbcb _ _ (by first | (simp; done) | (simp; omega) | omega)).trans (by first | (simp [go_sem]; done) | assumption); have R2 := Lib.hid h2; have HB2 := Lib.hid hb2; clear h2 hb2))
  go_wp2
  refine bodyPost_ret (v := _) (by simp [results, Tryz.results141, go_sem, f20, f21] <;> rfl) rfl ?_
  have q1 : IntsR w1 (w.heap.size + 2) (.slice P1 xs.length k1) xs := intsR_lower R1.out (by simp)
  have q2 : IntsR w2 (w.heap.size + 2) (.slice P2 ys.length k2) ys := intsR_lower R2.out (by have := HB1.out.size; simp at this; omega)
  have q3 : IntsR w2 (w.heap.size + 2) (.slice P1 xs.length k1) xs := Kd.R_below q1 HB2.out
  exact ⟨_, _, rfl, intsR_lower (base := w.heap.size + 2) (intsR_set (intsR_set q3 (by show _ < _; simp) _) (by show _ < _; simp) _) (by omega), intsR_lower (base := w.heap.size + 2) (intsR_set (intsR_set q2 (by show _ < _; simp) _) (by show _ < _; simp) _) (by omega),
    below_set (below_set (below_step (below_step (below_drew1 (below_alloc (below_alloc (Below.refl _ _) _) _)) HB1.out) HB2.out) (by omega)) (by omega)⟩
end Go.Proofs.YthehihjcpiadgaaGreat
end
section
namespace Go.Proofs.YthehihjcpiadgaaGreat
open Go.RowKit Go.Proofs.YthehihjcpiadgaaGreatW.PrintWords
set_option linter.unusedSimpArgs false
set_option linter.unusedVariables false
/-- The type of a block; none: there is none. -/
def Sp.blockOf (M : SMod) (a : Int) : Option STy :=
  if a = -1 then some ⟨[], []⟩ else if a = -2 then some ⟨[], [127]⟩ else if a = -3 then some ⟨[], [126]⟩ else if a = -4 then some ⟨[], [124]⟩
  else if 0 ≤ a ∧ a < M.f0.length then some (rd_TTy M.f0 a) else none
/-- A type, or none, comes back, by itself; memory was made alone. -/
def TyOEnd (o : Option STy) (w : World) (e : Ending) (w' : World) : Prop :=
  ∃ v1 v2, e = .returned (.tuple #[.agg #[v1, v2], .bool o.isSome]) ∧ IntsR w' w.heap.size v1 (o.getD zTy).f0 ∧ IntsR w' w.heap.size v2 (o.getD zTy).f1 ∧ Below w.heap.size w w'
/-- Types that are not too great to be copied. -/
def SmallTys (l : List STy) : Prop := ∀ i : Int, (rd_TTy l i).f0.length * 8 ≤ 140737488355328 ∧ (rd_TTy l i).f1.length * 8 ≤ 140737488355328
set_option maxHeartbeats 2000000 in
theorem module_Block_in (M : SMod) (cs : List Value) (a : Int) (w : World) (hM : kMod.K w M cs) (hs : SmallTys M.f0) (h0 : 0 ≤ a) (h1 : a < M.f0.length) : Calls Tryz.prog 89 #[.agg cs.toArray, .int .i64 a] w (TyOEnd (some (rd_TTy M.f0 a)) w) := by
  obtain ⟨A0, c0, A1, c1, A2, c2, A3, c3, A4, c4, A5, c5, A6, c6, A7, c7, rfl, l0, g0, _⟩ := kMod_open hM
  have hcell := at_TTy (Kd.C_alloc (Kd.C_alloc g0 (.cells #[.slice A0 M.f0.length c0, .slice A1 M.f1.length c1, .slice A2 M.f2.length c2, .slice A3 M.f3.length c3, .slice A4 M.f4.length c4, .slice A5 M.f5.length c5, .slice A6 M.f6.length c6, .slice A7 M.f7.length c7] 37)) (.cells #[.slice none 0 0, .slice none 0 0] 40)) a h0 h1
  obtain ⟨ad, B0, d0, B1, d1, rfl, e0, e1, m0, q0, m1, q1⟩ := hcell
  obtain ⟨s0, s1⟩ := hs a
  have hwi : Sp.within a 0 ((M.f0.length : Int) - 1) = true := by simp [Sp.within]; omega
  have Hw := Lib.hid (fun w => module_within a (M.f0.length : Int) w)
  rw [hwi] at Hw
  have n1 : ¬ a = -1 := by omega
  have n2 : ¬ a = -2 := by omega
  have n3 : ¬ a = -3 := by omega
  have n4 : ¬ a = -4 := by omega
  have Ho := Lib.hid (module_own B0 B1 d0 d1 _ _ _ q0 q1 s0 s1)
  clear q0 q1 s0 s1 hs m0 m1 g0 hM hwi
  go_enter Tryz.func89, Tryz.ntmps89
  go_wp2_with (first | (go_at_call 137; refine (Hw.out _).mono ?_; rintro e w' ⟨rfl, rfl⟩))
  refine Ho.out.mono ?_
  rintro e w1 ⟨v1, v2, rfl, r1, r2, hb⟩
  obtain ⟨P1, k1, rfl⟩ := Kd.R_slice r1
  obtain ⟨P2, k2, rfl⟩ := Kd.R_slice r2
  obtain ⟨hc, hf⟩ := bcell hb
  have hz : w.heap.size + 1 < w1.heap.size := by have := hb.size; simp at this; omega
  have f0 : w1.cell? ⟨w.heap.size + 1, 0, none⟩ = some (.slice none 0 0) := (hc _ _ (by simp)).trans (by simp [go_sem])
  have f1 : w1.cell? ⟨w.heap.size + 1, 1, none⟩ = some (.slice none 0 0) := (hc _ _ (by simp)).trans (by simp [go_sem])
  have f2 : w1.frozen? ⟨w.heap.size + 1, 0, none⟩ = false := (hf _ _ (by simp)).trans (by simp [go_sem])
  have f3 : w1.frozen? ⟨w.heap.size + 1, 1, none⟩ = false := (hf _ _ (by simp)).trans (by simp [go_sem])
  have q1 := Lib.hid (intsR_lower (b := w.heap.size + 2) r1 (by simp))
  have q2 := Lib.hid (intsR_lower (b := w.heap.size + 2) r2 (by simp))
  have HB := Lib.hid hb
  clear hc hf r1 r2 hb
  go_wp2_with fail
  refine bodyPost_ret (v := _) (by simp [results, Tryz.results89, go_sem, f0, f1] <;> rfl) rfl ?_
  exact ⟨_, _, rfl, intsR_lower (base := w.heap.size + 2) (intsR_set (intsR_set q1.out (by show _ < _; simp) _) (by show _ < _; simp) _) (by omega), intsR_lower (base := w.heap.size + 2) (intsR_set (intsR_set q2.out (by show _ < _; simp) _) (by show _ < _; simp) _) (by omega),
    below_set (below_set (below_step (below_alloc (below_alloc (Below.refl _ _) _) _) HB.out) (by omega)) (by omega)⟩
theorem tyo_none {w W : World} {o : Option STy} (ho : o = none) (hb : Below w.heap.size w W) : TyOEnd o w (.returned (.tuple #[.agg #[.slice none 0 0, .slice none 0 0], .bool false])) W := by
  subst ho
  exact ⟨_, _, rfl, Kd.R_nil _ _ _ _ _, Kd.R_nil _ _ _ _ _, hb⟩
theorem tyo_nil {w W : World} {o : Option STy} (ho : o = some ⟨[], []⟩) (hb : Below w.heap.size w W) : TyOEnd o w (.returned (.tuple #[.agg #[.slice none 0 0, .slice none 0 0], .bool true])) W := by
  subst ho
  exact ⟨_, _, rfl, Kd.R_nil _ _ _ _ _, Kd.R_nil _ _ _ _ _, hb⟩
theorem tyo_one {w W : World} {o : Option STy} {g : Nat} {t : Int} (ho : o = some ⟨[], [t]⟩) (h2 : W.heap[g]? = some (.cells #[.int .i64 t] 3 (0, 0))) (b2 : w.heap.size ≤ g) (hb : Below w.heap.size w W) : TyOEnd o w (.returned (.tuple #[.agg #[.slice none 0 0, .slice (some ⟨g, 0, none⟩) 1 1], .bool true])) W := by
  subst ho
  exact ⟨_, _, rfl, Kd.R_nil _ _ _ _ _, ints_of_blk (xs := [t]) h2 b2 (max_small (by simp)), hb⟩
set_option maxHeartbeats 2000000 in
theorem module_Block_out (M : SMod) (cs : List Value) (a : Int) (w : World) (hM : kMod.K w M cs) (h : ¬ (0 ≤ a ∧ a < M.f0.length)) : Calls Tryz.prog 89 #[.agg cs.toArray, .int .i64 a] w (TyOEnd (Sp.blockOf M a) w) := by
  obtain ⟨A0, c0, A1, c1, A2, c2, A3, c3, A4, c4, A5, c5, A6, c6, A7, c7, rfl, l0, g0, _⟩ := kMod_open hM
  have hwi : Sp.within a 0 ((M.f0.length : Int) - 1) = false := by simp [Sp.within]; omega
  have Hw := Lib.hid (fun w => module_within a (M.f0.length : Int) w)
  rw [hwi] at Hw
  have H := Lib.hid h
  clear g0 hM hwi h
  go_enter Tryz.func89, Tryz.ntmps89
  go_wp2_with (first | (go_at_call 137; refine (Hw.out _).mono ?_; rintro e w' ⟨rfl, rfl⟩))
  all_goals
    refine bodyPost_ret (v := _) (by simp [results, Tryz.results89, go_sem] <;> rfl) rfl ?_
    have h := H.out
    first
    | (refine tyo_none ?_ (by repeat (first | exact Below.refl _ _ | refine below_alloc ?_ _)); simp_all [Sp.blockOf]; done)
    | (refine tyo_nil ?_ (by repeat (first | exact Below.refl _ _ | refine below_alloc ?_ _)); simp_all [Sp.blockOf]; done)
    | (refine tyo_one ?_ (by repeat (first | (refine alloc_at ?_; (simp; done)) | (refine (alloc_lt ?_).trans ?_; · (simp <;> omega)))) (by omega) (by repeat (first | exact Below.refl _ _ | refine below_alloc ?_ _)); simp_all [Sp.blockOf]; done)
    | (refine tyo_none ?_ (by repeat (first | exact Below.refl _ _ | refine below_alloc ?_ _)); unfold Sp.blockOf; simp only [beq_iff_eq, beq_eq_false_iff_ne, ne_eq, decide_eq_true_eq, decide_eq_false_iff_not, Bool.or_eq_true, Bool.and_eq_true, Int.not_lt, Int.not_le] at *; rw [if_neg (by omega), if_neg (by omega), if_neg (by omega), if_neg (by omega), if_neg (by omega)])
theorem module_Block (M : SMod) (cs : List Value) (a : Int) (w : World) (hM : kMod.K w M cs) (hs : SmallTys M.f0) : Calls Tryz.prog 89 #[.agg cs.toArray, .int .i64 a] w (TyOEnd (Sp.blockOf M a) w) := by
  by_cases h : 0 ≤ a ∧ a < M.f0.length
  · have e : Sp.blockOf M a = some (rd_TTy M.f0 a) := by
      unfold Sp.blockOf
      rw [if_neg (by omega), if_neg (by omega), if_neg (by omega), if_neg (by omega), if_pos h]
    rw [e]
    exact module_Block_in M cs a w hM hs h.1 h.2
  · exact module_Block_out M cs a w hM h
end Go.Proofs.YthehihjcpiadgaaGreat
end
section
namespace Go.Proofs.YthehihjcpiadgaaGreat
open Go.RowKit Go.Proofs.YthehihjcpiadgaaGreatW.PrintWords
set_option linter.unusedSimpArgs false
set_option linter.unusedVariables false
/-- A function's type's number. -/
def Sp.fnType (M : SMod) (f : Int) : Option Int :=
  if 0 ≤ f ∧ f < M.f1.length then some (rd_TImp M.f1 f).f2 else if 0 ≤ f - M.f1.length ∧ f - M.f1.length < M.f2.length then some (rd_TFun M.f2 (f - M.f1.length)).f0 else none
def Sp.tyAt (M : SMod) (t : Int) : Option STy := if 0 ≤ t ∧ t < M.f0.length then some (rd_TTy M.f0 t) else none
/-- A function's type. -/
def Sp.sigOf (M : SMod) (f : Int) : Option STy := (Sp.fnType M f).bind (Sp.tyAt M)
set_option maxHeartbeats 2000000 in
theorem module_Sig_imp_in (M : SMod) (cs : List Value) (f : Int) (w : World) (hM : kMod.K w M cs) (n1 : M.f1.length ≤ 1000000) (n2 : M.f2.length ≤ 1000000) (hs : SmallTys M.f0) (h0 : 0 ≤ f) (h1 : f < M.f1.length) (t : Int) (ht : (rd_TImp M.f1 f).f2 = t) (t0 : 0 ≤ t) (t1 : t < M.f0.length) : Calls Tryz.prog 84 #[.agg cs.toArray, .int .i64 f] w (TyOEnd (some (rd_TTy M.f0 t)) w) := by
  obtain ⟨A0, c0, A1, c1, A2, c2, A3, c3, A4, c4, A5, c5, A6, c6, A7, c7, rfl, l0, g0, l1, g1, l2, g2, -⟩ := kMod_open hM
  obtain ⟨bd, rfl, e2, e3, e4⟩ := at_TImp (Kd.C_alloc (Kd.C_alloc g1 (.cells #[.slice A0 M.f0.length c0, .slice A1 M.f1.length c1, .slice A2 M.f2.length c2, .slice A3 M.f3.length c3, .slice A4 M.f4.length c4, .slice A5 M.f5.length c5, .slice A6 M.f6.length c6, .slice A7 M.f7.length c7] 37)) (.cells #[.slice none 0 0, .slice none 0 0] 40)) f h0 h1
  have w1 : Sp.within f 0 ((M.f1.length : Int) - 1) = true := by simp [Sp.within]; omega
  rw [ht] at e4
  obtain ⟨ad, B0, d0, B1, d1, rfl, e0, e1, m0, q0, m1, q1⟩ := at_TTy (Kd.C_alloc (Kd.C_alloc g0 (.cells #[.slice A0 M.f0.length c0, .slice (some bd) M.f1.length c1, .slice A2 M.f2.length c2, .slice A3 M.f3.length c3, .slice A4 M.f4.length c4, .slice A5 M.f5.length c5, .slice A6 M.f6.length c6, .slice A7 M.f7.length c7] 37)) (.cells #[.slice none 0 0, .slice none 0 0] 40)) t t0 t1
  obtain ⟨s0, s1⟩ := hs t
  have w3 : Sp.within t 0 ((M.f0.length : Int) - 1) = true := by simp [Sp.within]; omega
  have Ho := Lib.hid (module_own B0 B1 d0 d1 _ _ _ q0 q1 s0 s1)
  clear q0 q1 s0 s1 hs m0 m1 g0 g1 g2 hM ht
  go_enter Tryz.func84, Tryz.ntmps84
  go_wp2_with (first | (go_at_call 137; refine (module_within _ _ _).mono ?_; rintro e w' ⟨rfl, rfl⟩))
  refine Ho.out.mono ?_
  rintro e w1 ⟨v1, v2, rfl, r1, r2, hb⟩
  obtain ⟨P1, k1, rfl⟩ := Kd.R_slice r1
  obtain ⟨P2, k2, rfl⟩ := Kd.R_slice r2
  obtain ⟨hc, hf⟩ := bcell hb
  have hz : w.heap.size + 1 < w1.heap.size := by have := hb.size; simp at this; omega
  have f0 : w1.cell? ⟨w.heap.size + 1, 0, none⟩ = some (.slice none 0 0) := (hc _ _ (by simp)).trans (by simp [go_sem])
  have f1 : w1.cell? ⟨w.heap.size + 1, 1, none⟩ = some (.slice none 0 0) := (hc _ _ (by simp)).trans (by simp [go_sem])
  have f2 : w1.frozen? ⟨w.heap.size + 1, 0, none⟩ = false := (hf _ _ (by simp)).trans (by simp [go_sem])
  have f3 : w1.frozen? ⟨w.heap.size + 1, 1, none⟩ = false := (hf _ _ (by simp)).trans (by simp [go_sem])
  have q1 := Lib.hid (intsR_lower (b := w.heap.size + 2) r1 (by simp))
  have q2 := Lib.hid (intsR_lower (b := w.heap.size + 2) r2 (by simp))
  have HB := Lib.hid hb
  clear hc hf r1 r2 hb
  go_wp2_with fail
  refine bodyPost_ret (v := _) (by simp [results, Tryz.results84, go_sem, f0, f1] <;> rfl) rfl ?_
  exact ⟨_, _, rfl, intsR_lower (base := w.heap.size + 2) (intsR_set (intsR_set q1.out (by show _ < _; simp) _) (by show _ < _; simp) _) (by omega), intsR_lower (base := w.heap.size + 2) (intsR_set (intsR_set q2.out (by show _ < _; simp) _) (by show _ < _; simp) _) (by omega),
    below_set (below_set (below_step (below_alloc (below_alloc (Below.refl _ _) _) _) HB.out) (by omega)) (by omega)⟩
set_option maxHeartbeats 2000000 in
theorem module_Sig_imp_out (M : SMod) (cs : List Value) (f : Int) (w : World) (hM : kMod.K w M cs) (n1 : M.f1.length ≤ 1000000) (n2 : M.f2.length ≤ 1000000) (h0 : 0 ≤ f) (h1 : f < M.f1.length) (t : Int) (ht : (rd_TImp M.f1 f).f2 = t) (t0 : ¬ (0 ≤ t ∧ t < M.f0.length)) : Calls Tryz.prog 84 #[.agg cs.toArray, .int .i64 f] w (TyOEnd none w) := by
  obtain ⟨A0, c0, A1, c1, A2, c2, A3, c3, A4, c4, A5, c5, A6, c6, A7, c7, rfl, l0, g0, l1, g1, l2, g2, -⟩ := kMod_open hM
  obtain ⟨bd, rfl, e2, e3, e4⟩ := at_TImp (Kd.C_alloc (Kd.C_alloc g1 (.cells #[.slice A0 M.f0.length c0, .slice A1 M.f1.length c1, .slice A2 M.f2.length c2, .slice A3 M.f3.length c3, .slice A4 M.f4.length c4, .slice A5 M.f5.length c5, .slice A6 M.f6.length c6, .slice A7 M.f7.length c7] 37)) (.cells #[.slice none 0 0, .slice none 0 0] 40)) f h0 h1
  have w1 : Sp.within f 0 ((M.f1.length : Int) - 1) = true := by simp [Sp.within]; omega
  rw [ht] at e4
  have w3 : Sp.within t 0 ((M.f0.length : Int) - 1) = false := by simp [Sp.within]; omega
  clear g0 g1 g2 hM ht t0
  go_enter Tryz.func84, Tryz.ntmps84
  go_wp2_with (first | (go_at_call 137; refine (module_within _ _ _).mono ?_; rintro e w' ⟨rfl, rfl⟩))
  refine bodyPost_ret (v := _) (by simp [results, Tryz.results84, go_sem] <;> rfl) rfl ?_
  exact tyo_none rfl (by repeat (first | exact Below.refl _ _ | refine below_alloc ?_ _))
set_option maxHeartbeats 2000000 in
theorem module_Sig_fun_in (M : SMod) (cs : List Value) (j : Int) (w : World) (hM : kMod.K w M cs) (n1 : M.f1.length ≤ 1000000) (n2 : M.f2.length ≤ 1000000) (hs : SmallTys M.f0) (h0 : 0 ≤ j) (h1 : j < M.f2.length) (t : Int) (ht : (rd_TFun M.f2 j).f0 = t) (t0 : 0 ≤ t) (t1 : t < M.f0.length) : Calls Tryz.prog 84 #[.agg cs.toArray, .int .i64 ((M.f1.length : Int) + j)] w (TyOEnd (some (rd_TTy M.f0 t)) w) := by
  obtain ⟨A0, c0, A1, c1, A2, c2, A3, c3, A4, c4, A5, c5, A6, c6, A7, c7, rfl, l0, g0, l1, g1, l2, g2, -⟩ := kMod_open hM
  obtain ⟨bd, B2, d2, B3, d3, rfl, e2, e3, e4, -⟩ := at_TFun (Kd.C_alloc (Kd.C_alloc g2 (.cells #[.slice A0 M.f0.length c0, .slice A1 M.f1.length c1, .slice A2 M.f2.length c2, .slice A3 M.f3.length c3, .slice A4 M.f4.length c4, .slice A5 M.f5.length c5, .slice A6 M.f6.length c6, .slice A7 M.f7.length c7] 37)) (.cells #[.slice none 0 0, .slice none 0 0] 40)) j h0 h1
  have w1 : Sp.within ((M.f1.length : Int) + j) 0 ((M.f1.length : Int) - 1) = false := by simp [Sp.within]; omega
  have w2 : Sp.within j 0 ((M.f2.length : Int) - 1) = true := by simp [Sp.within]; omega
  have hj : (M.f1.length : Int) + j - (M.f1.length : Int) = j := by omega
  rw [ht] at e2
  obtain ⟨ad, B0, d0, B1, d1, rfl, e0, e1, m0, q0, m1, q1⟩ := at_TTy (Kd.C_alloc (Kd.C_alloc g0 (.cells #[.slice A0 M.f0.length c0, .slice A1 M.f1.length c1, .slice (some bd) M.f2.length c2, .slice A3 M.f3.length c3, .slice A4 M.f4.length c4, .slice A5 M.f5.length c5, .slice A6 M.f6.length c6, .slice A7 M.f7.length c7] 37)) (.cells #[.slice none 0 0, .slice none 0 0] 40)) t t0 t1
  obtain ⟨s0, s1⟩ := hs t
  have w3 : Sp.within t 0 ((M.f0.length : Int) - 1) = true := by simp [Sp.within]; omega
  have Ho := Lib.hid (module_own B0 B1 d0 d1 _ _ _ q0 q1 s0 s1)
  clear q0 q1 s0 s1 hs m0 m1 g0 g1 g2 hM ht
  go_enter Tryz.func84, Tryz.ntmps84
  go_wp2_with (first | (go_at_call 137; refine (module_within _ _ _).mono ?_; rintro e w' ⟨rfl, rfl⟩))
  refine Ho.out.mono ?_
  rintro e w1 ⟨v1, v2, rfl, r1, r2, hb⟩
  obtain ⟨P1, k1, rfl⟩ := Kd.R_slice r1
  obtain ⟨P2, k2, rfl⟩ := Kd.R_slice r2
  obtain ⟨hc, hf⟩ := bcell hb
  have hz : w.heap.size + 1 < w1.heap.size := by have := hb.size; simp at this; omega
  have f0 : w1.cell? ⟨w.heap.size + 1, 0, none⟩ = some (.slice none 0 0) := (hc _ _ (by simp)).trans (by simp [go_sem])
  have f1 : w1.cell? ⟨w.heap.size + 1, 1, none⟩ = some (.slice none 0 0) := (hc _ _ (by simp)).trans (by simp [go_sem])
  have f2 : w1.frozen? ⟨w.heap.size + 1, 0, none⟩ = false := (hf _ _ (by simp)).trans (by simp [go_sem])
  have f3 : w1.frozen? ⟨w.heap.size + 1, 1, none⟩ = false := (hf _ _ (by simp)).trans (by simp [go_sem])
  have q1 := Lib.hid (intsR_lower (b := w.heap.size + 2) r1 (by simp))
  have q2 := Lib.hid (intsR_lower (b := w.heap.size + 2) r2 (by simp))
  have HB := Lib.hid hb
  clear hc hf r1 r2 hb
  go_wp2_with fail
  refine bodyPost_ret (v := _) (by simp [results, Tryz.results84, go_sem, f0, f1] <;> rfl) rfl ?_
  exact ⟨_, _, rfl, intsR_lower (base := w.heap.size + 2) (intsR_set (intsR_set q1.out (by show _ < _; simp) _) (by show _ < _; simp) _) (by omega), intsR_lower (base := w.heap.size + 2) (intsR_set (intsR_set q2.out (by show _ < _; simp) _) (by show _ < _; simp) _) (by omega),
    below_set (below_set (below_step (below_alloc (below_alloc (Below.refl _ _) _) _) HB.out) (by omega)) (by omega)⟩
set_option maxHeartbeats 2000000 in
theorem module_Sig_fun_out (M : SMod) (cs : List Value) (j : Int) (w : World) (hM : kMod.K w M cs) (n1 : M.f1.length ≤ 1000000) (n2 : M.f2.length ≤ 1000000) (h0 : 0 ≤ j) (h1 : j < M.f2.length) (t : Int) (ht : (rd_TFun M.f2 j).f0 = t) (t0 : ¬ (0 ≤ t ∧ t < M.f0.length)) : Calls Tryz.prog 84 #[.agg cs.toArray, .int .i64 ((M.f1.length : Int) + j)] w (TyOEnd none w) := by
  obtain ⟨A0, c0, A1, c1, A2, c2, A3, c3, A4, c4, A5, c5, A6, c6, A7, c7, rfl, l0, g0, l1, g1, l2, g2, -⟩ := kMod_open hM
  obtain ⟨bd, B2, d2, B3, d3, rfl, e2, e3, e4, -⟩ := at_TFun (Kd.C_alloc (Kd.C_alloc g2 (.cells #[.slice A0 M.f0.length c0, .slice A1 M.f1.length c1, .slice A2 M.f2.length c2, .slice A3 M.f3.length c3, .slice A4 M.f4.length c4, .slice A5 M.f5.length c5, .slice A6 M.f6.length c6, .slice A7 M.f7.length c7] 37)) (.cells #[.slice none 0 0, .slice none 0 0] 40)) j h0 h1
  have w1 : Sp.within ((M.f1.length : Int) + j) 0 ((M.f1.length : Int) - 1) = false := by simp [Sp.within]; omega
  have w2 : Sp.within j 0 ((M.f2.length : Int) - 1) = true := by simp [Sp.within]; omega
  have hj : (M.f1.length : Int) + j - (M.f1.length : Int) = j := by omega
  rw [ht] at e2
  have w3 : Sp.within t 0 ((M.f0.length : Int) - 1) = false := by simp [Sp.within]; omega
  clear g0 g1 g2 hM ht t0
  go_enter Tryz.func84, Tryz.ntmps84
  go_wp2_with (first | (go_at_call 137; refine (module_within _ _ _).mono ?_; rintro e w' ⟨rfl, rfl⟩))
  refine bodyPost_ret (v := _) (by simp [results, Tryz.results84, go_sem] <;> rfl) rfl ?_
  exact tyo_none rfl (by repeat (first | exact Below.refl _ _ | refine below_alloc ?_ _))
set_option maxHeartbeats 2000000 in
theorem module_Sig_none (M : SMod) (cs : List Value) (f : Int) (w : World) (hM : kMod.K w M cs) (n1 : M.f1.length ≤ 1000000) (n2 : M.f2.length ≤ 1000000) (f0 : -2147483648 ≤ f) (f9 : f ≤ 2147483647) (h0 : ¬ (0 ≤ f ∧ f < M.f1.length)) (h1 : ¬ (0 ≤ f - (M.f1.length : Int) ∧ f - (M.f1.length : Int) < M.f2.length)) : Calls Tryz.prog 84 #[.agg cs.toArray, .int .i64 f] w (TyOEnd none w) := by
  obtain ⟨A0, c0, A1, c1, A2, c2, A3, c3, A4, c4, A5, c5, A6, c6, A7, c7, rfl, l0, g0, l1, g1, l2, g2, -⟩ := kMod_open hM
  have w1 : Sp.within f 0 ((M.f1.length : Int) - 1) = false := by simp [Sp.within]; omega
  have w2 : Sp.within (f - (M.f1.length : Int)) 0 ((M.f2.length : Int) - 1) = false := by simp [Sp.within]; omega
  clear g0 g1 g2 hM h0 h1
  go_enter Tryz.func84, Tryz.ntmps84
  go_wp2_with (first | (go_at_call 137; refine (module_within _ _ _).mono ?_; rintro e w' ⟨rfl, rfl⟩))
  refine bodyPost_ret (v := _) (by simp [results, Tryz.results84, go_sem] <;> rfl) rfl ?_
  exact tyo_none rfl (by repeat (first | exact Below.refl _ _ | refine below_alloc ?_ _))
theorem module_Sig (M : SMod) (cs : List Value) (f : Int) (w : World) (hM : kMod.K w M cs) (n1 : M.f1.length ≤ 1000000) (n2 : M.f2.length ≤ 1000000) (hs : SmallTys M.f0) (f0 : -2147483648 ≤ f) (f9 : f ≤ 2147483647) : Calls Tryz.prog 84 #[.agg cs.toArray, .int .i64 f] w (TyOEnd (Sp.sigOf M f) w) := by
  unfold Sp.sigOf Sp.fnType Sp.tyAt
  by_cases h : 0 ≤ f ∧ f < M.f1.length
  · rw [if_pos h]
    simp only [Option.bind_some]
    by_cases ht : 0 ≤ (rd_TImp M.f1 f).f2 ∧ (rd_TImp M.f1 f).f2 < M.f0.length
    · rw [if_pos ht]; exact module_Sig_imp_in M cs f w hM n1 n2 hs h.1 h.2 _ rfl ht.1 ht.2
    · rw [if_neg ht]; exact module_Sig_imp_out M cs f w hM n1 n2 h.1 h.2 _ rfl ht
  · rw [if_neg h]
    by_cases h2 : 0 ≤ f - (M.f1.length : Int) ∧ f - (M.f1.length : Int) < M.f2.length
    · rw [if_pos h2]
      simp only [Option.bind_some]
      by_cases ht : 0 ≤ (rd_TFun M.f2 (f - M.f1.length)).f0 ∧ (rd_TFun M.f2 (f - M.f1.length)).f0 < M.f0.length
      · rw [if_pos ht]; have := module_Sig_fun_in M cs (f - M.f1.length) w hM n1 n2 hs h2.1 h2.2 _ rfl ht.1 ht.2; rwa [show (M.f1.length : Int) + (f - M.f1.length) = f by omega] at this
      · rw [if_neg ht]; have := module_Sig_fun_out M cs (f - M.f1.length) w hM n1 n2 h2.1 h2.2 _ rfl ht; rwa [show (M.f1.length : Int) + (f - M.f1.length) = f by omega] at this
    · rw [if_neg h2]; exact module_Sig_none M cs f w hM n1 n2 f0 f9 h h2
end Go.Proofs.YthehihjcpiadgaaGreat
end
section
namespace Go.Proofs.YthehihjcpiadgaaGreat
open Go.RowKit Go.Proofs.YthehihjcpiadgaaGreatW.PrintWords
namespace Sp
/-- What moves in check.Stacks: the types, the frames, whether something is wrong. -/
structure St where
  T : List Int
  F : List SFr
  bad : Bool
/-- The innermost frame. -/
def St.top (s : St) : SFr := rd_TFr s.F ((s.F.length : Int) - 1)
def St.push (s : St) (l : List Int) : St := ⟨s.T ++ l, s.F, s.bad⟩
/-- A type is taken; 0: any. -/
def St.any (s : St) : Int × St :=
  if (s.T.length : Int) ≤ s.top.f2 then (0, ⟨s.T, s.F, s.bad || !s.top.f3⟩) else (rd s.T ((s.T.length : Int) - 1), ⟨s.T.take (s.T.length - 1), s.F, s.bad⟩)
def St.pop1 (s : St) (want : Int) : St := if s.any.1 ≠ 0 ∧ s.any.1 ≠ want then ⟨s.any.2.T, s.any.2.F, true⟩ else s.any.2
/-- Types are taken, the last one first. -/
def St.pop (s : St) (l : List Int) : St := l.foldr (fun want s => s.pop1 want) s
/-- The code behind is dead. -/
def St.die (s : St) : St := ⟨s.T.take s.top.f2.toNat, s.F.set (s.F.length - 1) ⟨s.top.f0, s.top.f1, s.top.f2, true⟩, s.bad⟩
def St.at (s : St) (k : Int) : SFr := rd_TFr s.F ((s.F.length : Int) - 1 - k)
def label (f : SFr) : List Int := if f.f0 = 3 then f.f1.f0 else f.f1.f1
/-- Heights go up, and are not above the types. -/
def SInv (s : St) : Prop := 0 < s.F.length ∧ s.F.length ≤ 100000 ∧ s.T.length ≤ 1000000 ∧ (∀ i : Int, 0 ≤ i → i < s.F.length → 0 ≤ (rd_TFr s.F i).f2 ∧ (rd_TFr s.F i).f2 ≤ s.T.length) ∧ ∀ i j : Int, 0 ≤ i → i ≤ j → j < s.F.length → (rd_TFr s.F i).f2 ≤ (rd_TFr s.F j).f2
end Sp
end Go.Proofs.YthehihjcpiadgaaGreat
end
section
namespace Go.Proofs.YthehihjcpiadgaaGreat
open Go.RowKit Go.Proofs.YthehihjcpiadgaaGreatW.PrintWords
namespace Sp
/-- What package match's stack holds: blocks that have no end yet, those that have, how deep. -/
structure MSt where
  o : List SSpan
  d : List SSpan
  deep : Int
/-- The innermost block that has no end. -/
def MSt.last (s : MSt) : SSpan := rd_TSpan s.o ((s.o.length : Int) - 1)
/-- One instruction; none: it may not be there. -/
def mstep (code : List SInst) (i : Nat) (s : MSt) : Option MSt :=
  let op := (rd_TInst code i).f0
  let more := decide ((i : Int) < code.length - 1)
  if opens op then (if more then some ⟨s.o ++ [⟨i, -1, -1⟩], s.d, max s.deep (s.o.length + 1)⟩ else none)
  else if op = 5 then
    (if s.o.length = 0 ∨ (rd_TInst code s.last.f0).f0 ≠ 4 ∨ s.last.f1 ≠ -1 then none
     else if more then some ⟨s.o.set (s.o.length - 1) ⟨s.last.f0, i, s.last.f2⟩, s.d, s.deep⟩ else none)
  else if op = 11 ∧ 0 < s.o.length then (if more then some ⟨s.o.take (s.o.length - 1), s.d ++ [⟨s.last.f0, s.last.f1, i⟩], s.deep⟩ else none)
  else if op = 11 then (if (i : Int) = code.length - 1 then some s else none)
  else if more then some s else none
/-- What holds between two instructions. -/
def MInv (code : List SInst) (i : Nat) (s : MSt) : Prop := s.o.length ≤ i ∧ s.d.length ≤ i ∧ 0 ≤ s.deep ∧ s.deep ≤ i ∧ ∀ j : Int, 0 ≤ j → j < s.o.length → 0 ≤ (rd_TSpan s.o j).f0 ∧ (rd_TSpan s.o j).f0 < code.length
theorem minv_step {code : List SInst} {i : Nat} {s s' : MSt} (hi : i < code.length) (h : MInv code i s) (hs : mstep code i s = some s') : MInv code (i + 1) s' := by
  obtain ⟨h1, h2, h3, h4, h5⟩ := h
  unfold mstep at hs
  dsimp only at hs
  split at hs
  · split at hs
    · injection hs with hs
      subst hs
      refine ⟨by simp; omega, by dsimp only; omega, by dsimp only; omega, by dsimp only; omega, fun j j0 j1 => ?_⟩
      simp only [List.length_append, List.length_singleton] at j1
      by_cases hj : j < s.o.length
      · have e : rd_TSpan (s.o ++ [⟨(i : Int), -1, -1⟩]) j = rd_TSpan s.o j := by
          unfold rd_TSpan
          rw [List.getD_eq_getElem?_getD, List.getD_eq_getElem?_getD, List.getElem?_append_left (by omega)]
        dsimp only
        rw [e]; exact h5 j j0 hj
      · have e : rd_TSpan (s.o ++ [⟨(i : Int), -1, -1⟩]) j = ⟨(i : Int), -1, -1⟩ := by
          unfold rd_TSpan
          have : j.toNat = s.o.length := by omega
          rw [List.getD_eq_getElem?_getD, this]; simp
        dsimp only
        rw [e]; dsimp only; omega
    · cases hs
  · split at hs
    · split at hs
      · cases hs
      · split at hs
        · rename_i hn _
          injection hs with hs
          subst hs
          have hn1 : 0 < s.o.length := by omega
          refine ⟨by simp; omega, by dsimp only; omega, by dsimp only; omega, by dsimp only; omega, fun j j0 j1 => ?_⟩
          simp only [List.length_set] at j1
          by_cases hj : j.toNat = s.o.length - 1
          · have e : rd_TSpan (s.o.set (s.o.length - 1) ⟨s.last.f0, i, s.last.f2⟩) j = ⟨s.last.f0, i, s.last.f2⟩ := by
              unfold rd_TSpan
              rw [List.getD_eq_getElem?_getD, hj, List.getElem?_set_self (by omega)]; rfl
            dsimp only
            rw [e]; dsimp only
            exact h5 _ (by omega) (by omega)
          · have e : rd_TSpan (s.o.set (s.o.length - 1) ⟨s.last.f0, i, s.last.f2⟩) j = rd_TSpan s.o j := by
              unfold rd_TSpan
              rw [List.getD_eq_getElem?_getD, List.getD_eq_getElem?_getD, List.getElem?_set_ne (by omega)]
            dsimp only
            rw [e]; exact h5 j j0 j1
        · cases hs
    · split at hs
      · split at hs
        · rename_i hn _
          injection hs with hs
          subst hs
          refine ⟨by simp; omega, by simp; omega, by dsimp only; omega, by dsimp only; omega, fun j j0 j1 => ?_⟩
          simp only [List.length_take] at j1
          have e : rd_TSpan (s.o.take (s.o.length - 1)) j = rd_TSpan s.o j := by
            unfold rd_TSpan
            rw [List.getD_eq_getElem?_getD, List.getD_eq_getElem?_getD, List.getElem?_take_of_lt (by omega)]
          dsimp only
          rw [e]; exact h5 j j0 (by omega)
        · cases hs
      · split at hs
        · split at hs
          · injection hs with hs; subst hs
            exact ⟨by omega, by omega, h3, by omega, h5⟩
          · cases hs
        · split at hs
          · injection hs with hs; subst hs
            exact ⟨by omega, by omega, h3, by omega, h5⟩
          · cases hs
end Sp
end Go.Proofs.YthehihjcpiadgaaGreat
end
section
namespace Go.Proofs.YthehihjcpiadgaaGreat
open Go.RowKit Go.Proofs.YthehihjcpiadgaaGreatW.PrintWords
set_option linter.unusedSimpArgs false
set_option linter.unusedVariables false
set_option maxRecDepth 100000 in
set_option maxHeartbeats 4000000 in
theorem ops_Known (op : Int) (w : World) : Calls Tryz.prog 143 #[.int .i64 op] w fun e w' => e = .returned (.bool (Sp.known op)) ∧ w = w' := by
  go_enter Tryz.func143, Tryz.ntmps143
  go_wp2_with (first | (go_at_call 88; refine (ops_Access _ _).mono ?_; rintro e w' ⟨rfl, rfl⟩) | (go_at_call 152; refine (ops_Const _ _).mono ?_; rintro e w' ⟨rfl, rfl⟩) | (go_at_call 193; refine (ints_Is _ _).mono ?_; rintro e w' ⟨rfl, rfl⟩) | (go_at_call 194; refine (floats_Is _ _).mono ?_; rintro e w' ⟨rfl, rfl⟩) | (go_at_call 87; refine (ops_Opens _ _).mono ?_; rintro e w' ⟨rfl, rfl⟩))
  all_goals
    go_ret
    refine ⟨congrArg (fun b => Ending.returned (.bool b)) ?_, rfl⟩
    go_light
    first | rfl | (simp [Sp.known, Sp.numB, Sp.opens, Sp.within, *]; done) | (simp [Sp.known, Sp.numB, Sp.opens, Sp.within, *]; omega) | (simp_all [Sp.known, Sp.numB, Sp.opens, Sp.within]; done) | (simp only [beq_iff_eq, beq_eq_false_iff_ne, ne_eq, decide_eq_true_eq, decide_eq_false_iff_not, Bool.or_eq_true, Bool.and_eq_true, Int.not_lt, Int.not_le] at *; rw [Bool.eq_iff_iff]; simp [Sp.known, Sp.numB, Sp.opens, Sp.within, *]; omega)
theorem ops_Rich (op : Int) (w : World) : Calls Tryz.prog 86 #[.int .i64 op] w fun e w' => e = .returned (.bool (Sp.known op && (decide (op = 18) || decide (192 ≤ op)))) ∧ w = w' := by
  go_enter Tryz.func86, Tryz.ntmps86
  go_wp2_with (first | (go_at_call 143; refine (ops_Known _ _).mono ?_; rintro e w' ⟨rfl, rfl⟩))
  all_goals
    go_ret
    refine ⟨congrArg (fun b => Ending.returned (.bool b)) ?_, rfl⟩
    go_light
    first | rfl | (simp_all; done) | (rw [Bool.eq_iff_iff]; simp_all; done) | (rw [Bool.eq_iff_iff]; simp_all; omega)
end Go.Proofs.YthehihjcpiadgaaGreat
end
section
namespace Go.Proofs.YthehihjcpiadgaaGreat
open Go.RowKit Go.Proofs.YthehihjcpiadgaaGreatW.PrintWords
set_option linter.unusedSimpArgs false
set_option linter.unusedVariables false
/-- A yes or no; memory was made alone. -/
def BoolEnd (b : Bool) (w : World) (e : Ending) (w' : World) : Prop := e = .returned (.bool b) ∧ Below w.heap.size w w' 
theorem ops_rich (op : Int) (w : World) : Calls Tryz.prog 86 #[.int .i64 op] w fun e w' => e = .returned (.bool (Sp.rich op)) ∧ w = w' := by
  rw [← Sp.rich_known]
  exact ops_Rich op w
/-- An instruction of rich modules alone. -/
def Sp.richI (op a : Int) : Bool := Sp.rich op || (Sp.opens op && decide (0 ≤ a))
theorem check_rich (op a b n : Int) (v : Value) (hv : ∃ A l c, v = .slice A l c) (w : World) : Calls Tryz.prog 45 #[.agg #[.int .i64 op, .int .i64 a, .int .i64 b, .int .u64 n, v]] w (BoolEnd (Sp.richI op a) w) := by
  obtain ⟨A, l, c, rfl⟩ := hv
  go_enter Tryz.func45, Tryz.ntmps45
  go_wp2_with (first | (go_at_call 86; refine (ops_rich _ _).mono ?_; rintro e w' ⟨rfl, rfl⟩) | (go_at_call 87; refine (ops_Opens _ _).mono ?_; rintro e w' ⟨rfl, rfl⟩))
  all_goals
    go_ret
    go_light
    refine ⟨congrArg (fun b => Ending.returned (.bool b)) ?_, below_alloc (Below.refl _ _) _⟩
    first | rfl | (simp [Sp.richI, *]; done) | (rw [Bool.eq_iff_iff]; simp_all [Sp.richI]; done) | (rw [Bool.eq_iff_iff]; simp_all [Sp.richI]; omega)
end Go.Proofs.YthehihjcpiadgaaGreat
end
section
namespace Go.Proofs.YthehihjcpiadgaaGreat
open Go.RowKit Go.Proofs.YthehihjcpiadgaaGreatW.PrintWords Go.Proofs.YthehihjcpiadgaaGreatW.PrintLast
set_option linter.unusedSimpArgs false
set_option linter.unusedVariables false
theorem infoSpan : (Tryz.prog.info? 151).map (fun i => (i.zero, i.size, i.bytes)) = some (some (.agg #[.int .i64 0, .int .i64 0, .int .i64 0]), 3, 24) := by kernel_rfl
abbrev SpansR (w : World) (base : Nat) (ok : Nat → Prop) (v : Value) (xs : List SSpan) : Prop := kSpan.R 151 w base ok v xs
theorem undrew {w w1 : World} {n : Nat} {r : Option Nat} (h : (w.drewN n).grownBy w1 r) : w.grownBy w1 r := ⟨h.os, h.tape, h.output, h.size, h.block⟩
theorem undrew_at {w : World} {n : Nat} {v v1 : Value} (h : v1.ownBlock = v.ownBlock ∨ ∃ b, v1.ownBlock = some b ∧ (w.drewN n).heap.size ≤ b) : v1.ownBlock = v.ownBlock ∨ ∃ b, v1.ownBlock = some b ∧ w.heap.size ≤ b := h
/-- Block g is a stack of blocks. -/
def MstAt (w : World) (base g : Nat) (s : Sp.MSt) (vo vd : Value) : Prop :=
  w.heap[g]? = some (.cells #[vo, vd, .int .i64 s.deep] 147 (0, 0)) ∧ base ≤ g ∧ SpansR w base (fun k => k ≠ g ∧ some k ≠ vd.ownBlock) vo s.o ∧ SpansR w base (fun k => k ≠ g ∧ some k ≠ vo.ownBlock) vd s.d
def MstEnd (w0 : World) (g : Nat) (r : Option Sp.MSt) (e : Ending) (w' : World) : Prop :=
  e = .returned (.bool r.isSome) ∧ Below w0.heap.size w0 w' ∧ ∀ s', r = some s' → ∃ vo vd, MstAt w' w0.heap.size g s' vo vd
theorem mst_drewN {w : World} {base g : Nat} {s : Sp.MSt} {vo vd : Value} (h : MstAt w base g s vo vd) (n : Nat) : MstAt (w.drewN n) base g s vo vd := ⟨h.1, h.2.1, Kd.R_drewN h.2.2.1 n, Kd.R_drewN h.2.2.2 n⟩
theorem mst_opened {w1 : World} {base g : Nat} {x0 vo vd : Value} {x2 y : Int} {o d : List SSpan} (hg : w1.heap[g]? = some (.cells #[x0, vd, .int .i64 x2] 147 (0, 0))) (hb : base ≤ g) (ho : SpansR w1 base (fun k => k ≠ g ∧ some k ≠ vd.ownBlock) vo o) (hd : SpansR w1 base (fun k => k ≠ g ∧ some k ≠ vo.ownBlock) vd d) :
    MstAt ((w1.setCell ⟨g, 0, none⟩ vo).setCell ⟨g, 2, none⟩ (.int .i64 y)) base g ⟨o, d, y⟩ vo vd :=
  ⟨blk_set (blk_set hg 0 vo) 2 (.int .i64 y), hb, Kd.R_far (Kd.R_far ho (fun k hk => hk.1) _) (fun k hk => hk.1) _, Kd.R_far (Kd.R_far hd (fun k hk => hk.1) _) (fun k hk => hk.1) _⟩
theorem mst_elsed {w : World} {base g gb cap j : Nat} {s : Sp.MSt} {vd : Value} {z : SSpan} {y : Int} (h : MstAt w base g s (.slice (some ⟨gb, 0, none⟩) s.o.length cap) vd) (hj : s.o.length = j + 1) (hz : z = rd_TSpan s.o (j : Int)) :
    MstAt (w.setCell ⟨gb, j * 3 + 1, none⟩ (.int .i64 y)) base g ⟨s.o.set (s.o.length - 1) ⟨z.f0, y, z.f2⟩, s.d, s.deep⟩ (.slice (some ⟨gb, 0, none⟩) s.o.length cap) vd := by
  obtain ⟨hg0, hbg, hro, hrd⟩ := h
  have hne : gb ≠ g := (hro.1 gb (by simp [Value.ownBlock])).1
  obtain ⟨cs, hcl, hcM, hcc, hcf⟩ := Kd.R_elem hro zSpan (j : Int) (by omega) (by omega)
  have hcs := kSpan_openM hcM
  subst hcs
  have hs := Kd.R_seg hro (j : Int) (by omega) (by omega) (c := _) (seg := [.int .i64 y]) (j := 1) hcl hcc (show 1 + 1 ≤ 3 from by omega) (x' := ⟨z.f0, y, z.f2⟩) (okp := fun _ => False) (by rw [hz]; exact kSpan_mkM _ _ _ _) (fun _ h => h.elim)
  rw [Int.toNat_natCast] at hs
  have e1 : j = s.o.length - 1 := by omega
  refine ⟨blk_far hg0 (Ne.symm hne) _, hbg, ?_, ?_⟩
  · have := hs.1
    rw [e1] at this ⊢
    exact this
  · exact Kd.R_grown (w1 := w.setCell ⟨gb, j * 3 + 1, none⟩ (.int .i64 y)) hrd hs.2 (fun k hk => hk.2)
theorem dr_cell {w W : World} {n : Nat} {a : Addr} {v : Option Value} (hW : w.drewN n = W) (h : w.cell? a = v) : W.cell? a = v := by subst hW; exact h
theorem dr_frozen {w W : World} {n : Nat} {a : Addr} {v : Bool} (hW : w.drewN n = W) (h : w.frozen? a = v) : W.frozen? a = v := by subst hW; exact h
theorem dr_size {w W : World} {n k : Nat} (hW : w.drewN n = W) (h : k < w.heap.size) : k < W.heap.size := by subst hW; exact h
theorem dr_heap {w W : World} {n k : Nat} {o : Option Obj} (hW : w.drewN n = W) (h : w.heap[k]? = o) : W.heap[k]? = o := by subst hW; exact h
theorem dr_below {w0 w W : World} {b n : Nat} (hW : w.drewN n = W) (h : Below b w0 w) : Below b w0 W := by subst hW; exact pw_below_drewN h _
theorem dr_spans {w W : World} {b n : Nat} {ok : Nat → Prop} {v : Value} {xs : List SSpan} (hW : w.drewN n = W) (h : SpansR w b ok v xs) : SpansR W b ok v xs := by subst hW; exact Kd.R_drewN h _
theorem wi64 (n : Int) : IntKind.i64.wrap n = wrap64 n := by unfold Go.RowKit.wrap64; exact IntKind.wrap_i64 n
theorem cell_al {w : World} {a : Addr} {v : Value} {o : Obj} (h : w.cell? a = some v) : (w.alloc o).cell? a = some v := (World.cell?_alloc_lt _ _ _ (World.block_lt_of_cell? w a h)).trans h
theorem cell_unal {w : World} {b q : Nat} {v : Value} {o : Obj} (h : (w.alloc o).cell? ⟨b, q, none⟩ = some v) (hb : b < w.heap.size) : w.cell? ⟨b, q, none⟩ = some v := (World.cell?_alloc_lt w _ _ hb).symm.trans h
theorem mst_ended {w1 : World} {base g gb cap j n k : Nat} {s : Sp.MSt} {x0 x1 : Value} {P : Option Addr} {l : List SSpan} (hg : w1.heap[g]? = some (.cells #[x0, x1, .int .i64 s.deep] 147 (0, 0))) (hb : base ≤ g) (hj : s.o.length = j + 1) (ho : SpansR w1 base (fun q => q ≠ g ∧ some q ≠ (Value.slice P n k).ownBlock) (.slice (some ⟨gb, 0, none⟩) s.o.length cap) s.o) (hd : SpansR w1 base (fun q => q ≠ g ∧ some q ≠ (Value.slice (some ⟨gb, 0, none⟩) s.o.length cap).ownBlock) (.slice P n k) l) :
    MstAt ((w1.setCell ⟨g, 0, none⟩ (.slice (some ⟨gb, 0, none⟩) j cap)).setCell ⟨g, 1, none⟩ (.slice P n k)) base g ⟨s.o.take (s.o.length - 1), l, s.deep⟩ (.slice (some ⟨gb, 0, none⟩) j cap) (.slice P n k) := by
  refine ⟨blk_set (blk_set hg 0 _) 1 _, hb, ?_, ?_⟩
  · have h := Kd.R_take (m := j) ho (by omega)
    have e : s.o.length - 1 = j := by omega
    rw [e]
    exact Kd.R_far (Kd.R_far h (fun q hq => hq.1) _) (fun q hq => hq.1) _
  · exact Kd.R_far (Kd.R_far (Kd.R_mono hd (fun q hq => ⟨hq.1, hq.2⟩)) (fun q hq => hq.1) _) (fun q hq => hq.1) _
theorem w64j {j : Nat} (h : j ≤ 65536) : wrap64 (j : Int) = (j : Int) := by unfold wrap64; omega
theorem below_setc {w0 W : World} {g j : Nat} {v : Value} (h : Below w0.heap.size w0 W) (hg : w0.heap.size ≤ g) : Below w0.heap.size w0 (W.setCell ⟨g, j, none⟩ v) := h.setCell hg _
set_option maxRecDepth 100000 in
set_option maxHeartbeats 8000000 in
theorem mstep_opens (w0 w : World) (HB : Below w0.heap.size w0 w) (A : Option Addr) (c : Nat) (code : List SInst) (hC : kInst.C w0 A code.length code) (i : Nat) (hi : i < code.length) (hl : code.length ≤ 65536) (g : Nat) (s : Sp.MSt) (vo vd : Value) (h : MstAt w w0.heap.size g s vo vd) (hI : Sp.MInv code i s) (hop : Sp.opens (rd_TInst code i).f0 = true) : Calls Tryz.prog 80 #[.pointer (some ⟨g, 0, none⟩), .slice A code.length c, .int .i64 i] w (MstEnd w0 g (Sp.mstep code i s)) := by
  have hM := h
  obtain ⟨hg0, hbg, hro, hrd⟩ := h
  obtain ⟨P, ko, rfl⟩ := Kd.R_slice hro
  obtain ⟨ad, A4, c4, rfl, e0, -⟩ := at_TInst (Kd.C_below hC HB) (i : Int) (by omega) (by omega)
  rw [Int.toNat_natCast] at e0
  obtain ⟨b1, b2, b3, b4, b5⟩ := hI
  have hi1 : (0 : Int) ≤ (i : Int) := by omega
  have hi2 : (i : Int) < (code.length : Int) := by omega
  obtain ⟨op, hope⟩ : ∃ op, op = (rd_TInst code i).f0 := ⟨_, rfl⟩
  rw [← hope] at hop e0
  have c0 : w.cell? ⟨g, 0, none⟩ = some (.slice P s.o.length ko) := (blk_cell hg0 0).trans rfl
  have c1 : w.cell? ⟨g, 1, none⟩ = some (vd) := (blk_cell hg0 1).trans rfl
  have c2 : w.cell? ⟨g, 2, none⟩ = some (.int .i64 s.deep) := (blk_cell hg0 2).trans rfl
  have f0 := blk_frozen hg0 0
  have f1 := blk_frozen hg0 1
  have f2 := blk_frozen hg0 2
  have glt := blk_lt hg0
  have H3 := Lib.hid (fun w => (show Calls Tryz.prog 87 #[.int .i64 op] w (fun e w' => e = .returned (.bool true) ∧ w = w') from (show Sp.opens op = true by first | exact hop | (simp only [Sp.opens, Sp.within, decide_eq_false_iff_not]; omega)) ▸ ops_Opens op w))
  by_cases hm : (i : Int) < code.length - 1
  · have hr : Sp.mstep code i s = some ⟨s.o ++ [⟨i, -1, -1⟩], s.d, max s.deep (s.o.length + 1)⟩ := by unfold Sp.mstep; dsimp only; rw [← hope, if_pos hop]; simp [hm]
    rw [hr]
    clear hr hope hop
    have hm1 : decide ((i : Int) < (code.length : Int) - 1) = true := by simp; omega
    clear hm
    have hw : wrap64 ((code.length : Int) - 1) = (code.length : Int) - 1 := by unfold wrap64; omega
    have HG := Lib.hid hg0; have HRO := Lib.hid hro; have HRD := Lib.hid hrd; have HB0 := Lib.hid HB; have HI := Lib.hid b5; have HM := Lib.hid hM
    clear hg0 hro hrd HB hC b5 hM
    go_enter Tryz.func80, Tryz.ntmps80
    go_wp2_with fail
    go_quiet (fail)
    go_wp2_with (first | (go_at_call 87; with_reducible refine (H3.out _).mono ?_; rintro e w' ⟨rfl, rfl⟩) | (at_builtin; (refine Kd.R_append kSpan (w0 := w0) w0.heap.size rfl (.tmp 27) (.tmp 30) 101 151 (.agg #[.int .i64 0, .int .i64 0, .int .i64 0]) 24 rfl Tryz.underlying101 infoSpan rfl (Nat.zero_lt_succ 2) (Nat.zero_lt_succ 23) (.slice P s.o.length ko) s.o ⟨i, -1, -1⟩ [.int .i64 i, .int .i64 (-1), .int .i64 (-1)] (fun k => k ≠ g ∧ some k ≠ vd.ownBlock) (fun _ => False) rfl rfl (kSpan_mkM _ _ _ _) (fun _ h => h.elim) ?fr ?HO ?HB ?hb ?hl ?_); (case fr => exact fun k hk => ⟨by have : w.heap.size ≤ k := hk; omega, fun he => by have := Kd.R_lt HRD.out k he.symm; have : w.heap.size ≤ k := hk; omega⟩); (case HO => exact Kd.R_drewN HRO.out _); (case HB => exact pw_below_drewN HB0.out _); (case hb => exact HB0.out.size); (case hl => omega); intro v1 w1 hR hB hG hat; obtain ⟨P1, kk1, rfl⟩ := Kd.R_slice hR; simp only [List.length_append, List.length_cons, List.length_nil, Nat.zero_add] at hR hat; replace hG := undrew hG; replace hat := undrew_at hat; have hg1 : w1.heap[g]? = some (.cells #[.slice P s.o.length ko, vd, .int .i64 s.deep] 147 (0, 0)) := blk_grown HG.out hG (Kd.R_away HRO.out (fun k hk => hk.1)); have d0 := (blk_cell hg1 0).trans rfl; have d1 := (blk_cell hg1 1).trans rfl; have d2 : w1.cell? ⟨g, 2, none⟩ = some (.int .i64 s.deep) := (blk_cell hg1 2).trans rfl; have k0 := blk_frozen hg1 0; have k1 := blk_frozen hg1 1; have k2 := blk_frozen hg1 2; have HRD1 := Lib.hid (Kd.R_after (Kd.R_mono HRD.out (fun k hk => ⟨hk.1, hk.2⟩)) hG hat); have HR1 := Lib.hid hR; have HB1 := Lib.hid hB; have HG1 := Lib.hid hg1; clear hR hB hG hat hg1 c0 c1 c2 f0 f1 f2))
    all_goals
      go_ret
      refine ⟨rfl, below_setc (below_setc HB1.out hbg) hbg, fun s' hs => ?_⟩
      injection hs with hs; subst hs
      first
      | (rw [Int.max_eq_right (by omega)]; exact ⟨_, _, mst_opened HG1.out hbg HR1.out HRD1.out⟩)
      | (rw [Int.max_eq_left (by omega)]; exact ⟨_, _, mst_opened HG1.out hbg HR1.out HRD1.out⟩)
  · have hr : Sp.mstep code i s = none := by unfold Sp.mstep; dsimp only; rw [← hope, if_pos hop]; simp [hm]
    rw [hr]
    clear hr hope hop
    have hm1 : decide ((i : Int) < (code.length : Int) - 1) = false := by simp; omega
    clear hm
    have hw : wrap64 ((code.length : Int) - 1) = (code.length : Int) - 1 := by unfold wrap64; omega
    have HG := Lib.hid hg0; have HRO := Lib.hid hro; have HRD := Lib.hid hrd; have HB0 := Lib.hid HB; have HI := Lib.hid b5; have HM := Lib.hid hM
    clear hg0 hro hrd HB hC b5 hM
    go_enter Tryz.func80, Tryz.ntmps80
    go_wp2_with fail
    go_quiet (fail)
    go_wp2_with (first | (go_at_call 87; with_reducible refine (H3.out _).mono ?_; rintro e w' ⟨rfl, rfl⟩) | (at_builtin; (refine Kd.R_append kSpan (w0 := w0) w0.heap.size rfl (.tmp 27) (.tmp 30) 101 151 (.agg #[.int .i64 0, .int .i64 0, .int .i64 0]) 24 rfl Tryz.underlying101 infoSpan rfl (Nat.zero_lt_succ 2) (Nat.zero_lt_succ 23) (.slice P s.o.length ko) s.o ⟨i, -1, -1⟩ [.int .i64 i, .int .i64 (-1), .int .i64 (-1)] (fun k => k ≠ g ∧ some k ≠ vd.ownBlock) (fun _ => False) rfl rfl (kSpan_mkM _ _ _ _) (fun _ h => h.elim) ?fr ?HO ?HB ?hb ?hl ?_); (case fr => exact fun k hk => ⟨by have : w.heap.size ≤ k := hk; omega, fun he => by have := Kd.R_lt HRD.out k he.symm; have : w.heap.size ≤ k := hk; omega⟩); (case HO => exact Kd.R_drewN HRO.out _); (case HB => exact pw_below_drewN HB0.out _); (case hb => exact HB0.out.size); (case hl => omega); intro v1 w1 hR hB hG hat; obtain ⟨P1, kk1, rfl⟩ := Kd.R_slice hR; simp only [List.length_append, List.length_cons, List.length_nil, Nat.zero_add] at hR hat; replace hG := undrew hG; replace hat := undrew_at hat; have hg1 : w1.heap[g]? = some (.cells #[.slice P s.o.length ko, vd, .int .i64 s.deep] 147 (0, 0)) := blk_grown HG.out hG (Kd.R_away HRO.out (fun k hk => hk.1)); have d0 := (blk_cell hg1 0).trans rfl; have d1 := (blk_cell hg1 1).trans rfl; have d2 : w1.cell? ⟨g, 2, none⟩ = some (.int .i64 s.deep) := (blk_cell hg1 2).trans rfl; have k0 := blk_frozen hg1 0; have k1 := blk_frozen hg1 1; have k2 := blk_frozen hg1 2; have HRD1 := Lib.hid (Kd.R_after (Kd.R_mono HRD.out (fun k hk => ⟨hk.1, hk.2⟩)) hG hat); have HR1 := Lib.hid hR; have HB1 := Lib.hid hB; have HG1 := Lib.hid hg1; clear hR hB hG hat hg1 c0 c1 c2 f0 f1 f2))
    all_goals
      go_ret
      exact ⟨rfl, below_setc (below_setc HB1.out hbg) hbg, fun s' hs => by cases hs⟩
set_option maxRecDepth 100000 in
set_option maxHeartbeats 8000000 in
theorem mstep_else0 (w0 w : World) (HB : Below w0.heap.size w0 w) (A : Option Addr) (c : Nat) (code : List SInst) (hC : kInst.C w0 A code.length code) (i : Nat) (hi : i < code.length) (hl : code.length ≤ 65536) (g : Nat) (s : Sp.MSt) (vo vd : Value) (h : MstAt w w0.heap.size g s vo vd) (hI : Sp.MInv code i s) (hop : (rd_TInst code i).f0 = 5) (hn : s.o.length = 0) : Calls Tryz.prog 80 #[.pointer (some ⟨g, 0, none⟩), .slice A code.length c, .int .i64 i] w (MstEnd w0 g (Sp.mstep code i s)) := by
  have hM := h
  obtain ⟨hg0, hbg, hro, hrd⟩ := h
  obtain ⟨P, ko, rfl⟩ := Kd.R_slice hro
  obtain ⟨ad, A4, c4, rfl, e0, -⟩ := at_TInst (Kd.C_below hC HB) (i : Int) (by omega) (by omega)
  rw [Int.toNat_natCast] at e0
  obtain ⟨b1, b2, b3, b4, b5⟩ := hI
  have hi1 : (0 : Int) ≤ (i : Int) := by omega
  have hi2 : (i : Int) < (code.length : Int) := by omega
  obtain ⟨op, hope⟩ : ∃ op, op = (rd_TInst code i).f0 := ⟨_, rfl⟩
  rw [← hope] at hop e0
  have c0 : w.cell? ⟨g, 0, none⟩ = some (.slice P s.o.length ko) := (blk_cell hg0 0).trans rfl
  have c1 : w.cell? ⟨g, 1, none⟩ = some (vd) := (blk_cell hg0 1).trans rfl
  have c2 : w.cell? ⟨g, 2, none⟩ = some (.int .i64 s.deep) := (blk_cell hg0 2).trans rfl
  have f0 := blk_frozen hg0 0
  have f1 := blk_frozen hg0 1
  have f2 := blk_frozen hg0 2
  have glt := blk_lt hg0
  have H3 := Lib.hid (fun w => (show Calls Tryz.prog 87 #[.int .i64 op] w (fun e w' => e = .returned (.bool false) ∧ w = w') from (show Sp.opens op = false by first | exact hop | (simp only [Sp.opens, Sp.within, decide_eq_false_iff_not]; omega)) ▸ ops_Opens op w))
  have hr : Sp.mstep code i s = none := by unfold Sp.mstep; dsimp only; rw [← hope, hop, if_neg (by decide), if_pos rfl, if_pos (.inl hn)]
  rw [hr]
  clear hr hope
  obtain rfl : op = 5 := hop
  have hn1 : ((s.o.length : Int) == 0) = true := by simp [hn]
  have HG := Lib.hid hg0; have HRO := Lib.hid hro; have HRD := Lib.hid hrd; have HB0 := Lib.hid HB; have HI := Lib.hid b5; have HM := Lib.hid hM
  clear hg0 hro hrd HB hC b5 hM
  go_enter Tryz.func80, Tryz.ntmps80
  go_wp2_with fail
  go_quiet (fail)
  go_wp2_with (first | (go_at_call 87; with_reducible refine (H3.out _).mono ?_; rintro e w' ⟨rfl, rfl⟩))
  go_ret
  exact ⟨rfl, pw_below_drewN HB0.out _, fun s' hs => by cases hs⟩
set_option maxRecDepth 100000 in
set_option maxHeartbeats 8000000 in
theorem mstep_end0 (w0 w : World) (HB : Below w0.heap.size w0 w) (A : Option Addr) (c : Nat) (code : List SInst) (hC : kInst.C w0 A code.length code) (i : Nat) (hi : i < code.length) (hl : code.length ≤ 65536) (g : Nat) (s : Sp.MSt) (vo vd : Value) (h : MstAt w w0.heap.size g s vo vd) (hI : Sp.MInv code i s) (hop : (rd_TInst code i).f0 = 11) (hn : s.o.length = 0) : Calls Tryz.prog 80 #[.pointer (some ⟨g, 0, none⟩), .slice A code.length c, .int .i64 i] w (MstEnd w0 g (Sp.mstep code i s)) := by
  have hM := h
  obtain ⟨hg0, hbg, hro, hrd⟩ := h
  obtain ⟨P, ko, rfl⟩ := Kd.R_slice hro
  obtain ⟨ad, A4, c4, rfl, e0, -⟩ := at_TInst (Kd.C_below hC HB) (i : Int) (by omega) (by omega)
  rw [Int.toNat_natCast] at e0
  obtain ⟨b1, b2, b3, b4, b5⟩ := hI
  have hi1 : (0 : Int) ≤ (i : Int) := by omega
  have hi2 : (i : Int) < (code.length : Int) := by omega
  obtain ⟨op, hope⟩ : ∃ op, op = (rd_TInst code i).f0 := ⟨_, rfl⟩
  rw [← hope] at hop e0
  have c0 : w.cell? ⟨g, 0, none⟩ = some (.slice P s.o.length ko) := (blk_cell hg0 0).trans rfl
  have c1 : w.cell? ⟨g, 1, none⟩ = some (vd) := (blk_cell hg0 1).trans rfl
  have c2 : w.cell? ⟨g, 2, none⟩ = some (.int .i64 s.deep) := (blk_cell hg0 2).trans rfl
  have f0 := blk_frozen hg0 0
  have f1 := blk_frozen hg0 1
  have f2 := blk_frozen hg0 2
  have glt := blk_lt hg0
  have H3 := Lib.hid (fun w => (show Calls Tryz.prog 87 #[.int .i64 op] w (fun e w' => e = .returned (.bool false) ∧ w = w') from (show Sp.opens op = false by first | exact hop | (simp only [Sp.opens, Sp.within, decide_eq_false_iff_not]; omega)) ▸ ops_Opens op w))
  by_cases hm : (i : Int) = code.length - 1
  · have hr : Sp.mstep code i s = some s := by unfold Sp.mstep; dsimp only; rw [← hope, hop, if_neg (by decide), if_neg (by decide), if_neg (by omega), if_pos rfl]; simp [hm]
    rw [hr]
    clear hr hope
    obtain rfl : op = 11 := hop
    have hn1 : (0 < (s.o.length : Int)) = False := by simp [hn]
    have hm1 : ((i : Int) == (code.length : Int) - 1) = true := by simp; omega
    have hw : wrap64 ((code.length : Int) - 1) = (code.length : Int) - 1 := by unfold wrap64; omega
    clear hm
    have HG := Lib.hid hg0; have HRO := Lib.hid hro; have HRD := Lib.hid hrd; have HB0 := Lib.hid HB; have HI := Lib.hid b5; have HM := Lib.hid hM
    clear hg0 hro hrd HB hC b5 hM
    go_enter Tryz.func80, Tryz.ntmps80
    go_wp2_with fail
    go_quiet (fail)
    go_wp2_with (first | (go_at_call 87; with_reducible refine (H3.out _).mono ?_; rintro e w' ⟨rfl, rfl⟩))
    go_ret
    exact ⟨rfl, pw_below_drewN HB0.out _, fun s' hs => by injection hs with hs; subst hs; exact ⟨_, _, mst_drewN HM.out _⟩⟩
  · have hr : Sp.mstep code i s = none := by unfold Sp.mstep; dsimp only; rw [← hope, hop, if_neg (by decide), if_neg (by decide), if_neg (by omega), if_pos rfl]; simp [hm]
    rw [hr]
    clear hr hope
    obtain rfl : op = 11 := hop
    have hn1 : (0 < (s.o.length : Int)) = False := by simp [hn]
    have hm1 : ((i : Int) == (code.length : Int) - 1) = false := by simp; omega
    have hw : wrap64 ((code.length : Int) - 1) = (code.length : Int) - 1 := by unfold wrap64; omega
    clear hm
    have HG := Lib.hid hg0; have HRO := Lib.hid hro; have HRD := Lib.hid hrd; have HB0 := Lib.hid HB; have HI := Lib.hid b5; have HM := Lib.hid hM
    clear hg0 hro hrd HB hC b5 hM
    go_enter Tryz.func80, Tryz.ntmps80
    go_wp2_with fail
    go_quiet (fail)
    go_wp2_with (first | (go_at_call 87; with_reducible refine (H3.out _).mono ?_; rintro e w' ⟨rfl, rfl⟩))
    go_ret
    exact ⟨rfl, pw_below_drewN HB0.out _, fun s' hs => by cases hs⟩
set_option maxRecDepth 100000 in
set_option maxHeartbeats 8000000 in
theorem mstep_other (w0 w : World) (HB : Below w0.heap.size w0 w) (A : Option Addr) (c : Nat) (code : List SInst) (hC : kInst.C w0 A code.length code) (i : Nat) (hi : i < code.length) (hl : code.length ≤ 65536) (g : Nat) (s : Sp.MSt) (vo vd : Value) (h : MstAt w w0.heap.size g s vo vd) (hI : Sp.MInv code i s) (hop : Sp.opens (rd_TInst code i).f0 = false ∧ (rd_TInst code i).f0 ≠ 5 ∧ (rd_TInst code i).f0 ≠ 11) : Calls Tryz.prog 80 #[.pointer (some ⟨g, 0, none⟩), .slice A code.length c, .int .i64 i] w (MstEnd w0 g (Sp.mstep code i s)) := by
  have hM := h
  obtain ⟨hg0, hbg, hro, hrd⟩ := h
  obtain ⟨P, ko, rfl⟩ := Kd.R_slice hro
  obtain ⟨ad, A4, c4, rfl, e0, -⟩ := at_TInst (Kd.C_below hC HB) (i : Int) (by omega) (by omega)
  rw [Int.toNat_natCast] at e0
  obtain ⟨b1, b2, b3, b4, b5⟩ := hI
  have hi1 : (0 : Int) ≤ (i : Int) := by omega
  have hi2 : (i : Int) < (code.length : Int) := by omega
  obtain ⟨op, hope⟩ : ∃ op, op = (rd_TInst code i).f0 := ⟨_, rfl⟩
  rw [← hope] at hop e0
  have c0 : w.cell? ⟨g, 0, none⟩ = some (.slice P s.o.length ko) := (blk_cell hg0 0).trans rfl
  have c1 : w.cell? ⟨g, 1, none⟩ = some (vd) := (blk_cell hg0 1).trans rfl
  have c2 : w.cell? ⟨g, 2, none⟩ = some (.int .i64 s.deep) := (blk_cell hg0 2).trans rfl
  have f0 := blk_frozen hg0 0
  have f1 := blk_frozen hg0 1
  have f2 := blk_frozen hg0 2
  have glt := blk_lt hg0
  have H3 := Lib.hid (fun w => (show Calls Tryz.prog 87 #[.int .i64 op] w (fun e w' => e = .returned (.bool false) ∧ w = w') from (show Sp.opens op = false by first | exact hop.1 | (simp only [Sp.opens, Sp.within, decide_eq_false_iff_not]; omega)) ▸ ops_Opens op w))
  by_cases hm : (i : Int) < code.length - 1
  · have hr : Sp.mstep code i s = some s := by unfold Sp.mstep; dsimp only; rw [← hope, if_neg (by rw [hop.1]; simp), if_neg hop.2.1, if_neg (fun h => hop.2.2 h.1), if_neg hop.2.2]; simp [hm]
    rw [hr]
    clear hr hope
    have q1 : (op == 5) = false := by simpa using hop.2.1
    have q2 : (op == 11) = false := by simpa using hop.2.2
    clear hop
    have hm1 : decide ((i : Int) < (code.length : Int) - 1) = true := by simp; omega
    clear hm
    have hw : wrap64 ((code.length : Int) - 1) = (code.length : Int) - 1 := by unfold wrap64; omega
    have HG := Lib.hid hg0; have HRO := Lib.hid hro; have HRD := Lib.hid hrd; have HB0 := Lib.hid HB; have HI := Lib.hid b5; have HM := Lib.hid hM
    clear hg0 hro hrd HB hC b5 hM
    go_enter Tryz.func80, Tryz.ntmps80
    go_wp2_with fail
    go_quiet (fail)
    go_wp2_with (first | (go_at_call 87; with_reducible refine (H3.out _).mono ?_; rintro e w' ⟨rfl, rfl⟩))
    go_ret
    exact ⟨rfl, pw_below_drewN HB0.out _, fun s' hs => by injection hs with hs; subst hs; exact ⟨_, _, mst_drewN HM.out _⟩⟩
  · have hr : Sp.mstep code i s = none := by unfold Sp.mstep; dsimp only; rw [← hope, if_neg (by rw [hop.1]; simp), if_neg hop.2.1, if_neg (fun h => hop.2.2 h.1), if_neg hop.2.2]; simp [hm]
    rw [hr]
    clear hr hope
    have q1 : (op == 5) = false := by simpa using hop.2.1
    have q2 : (op == 11) = false := by simpa using hop.2.2
    clear hop
    have hm1 : decide ((i : Int) < (code.length : Int) - 1) = false := by simp; omega
    clear hm
    have hw : wrap64 ((code.length : Int) - 1) = (code.length : Int) - 1 := by unfold wrap64; omega
    have HG := Lib.hid hg0; have HRO := Lib.hid hro; have HRD := Lib.hid hrd; have HB0 := Lib.hid HB; have HI := Lib.hid b5; have HM := Lib.hid hM
    clear hg0 hro hrd HB hC b5 hM
    go_enter Tryz.func80, Tryz.ntmps80
    go_wp2_with fail
    go_quiet (fail)
    go_wp2_with (first | (go_at_call 87; with_reducible refine (H3.out _).mono ?_; rintro e w' ⟨rfl, rfl⟩))
    go_ret
    exact ⟨rfl, pw_below_drewN HB0.out _, fun s' hs => by cases hs⟩
set_option maxRecDepth 100000 in
set_option maxHeartbeats 8000000 in
theorem mstep_else1 (w0 w : World) (HB : Below w0.heap.size w0 w) (A : Option Addr) (c : Nat) (code : List SInst) (hC : kInst.C w0 A code.length code) (i : Nat) (hi : i < code.length) (hl : code.length ≤ 65536) (g : Nat) (s : Sp.MSt) (vo vd : Value) (h : MstAt w w0.heap.size g s vo vd) (hI : Sp.MInv code i s) (hop : (rd_TInst code i).f0 = 5) (hn : 0 < s.o.length) : Calls Tryz.prog 80 #[.pointer (some ⟨g, 0, none⟩), .slice A code.length c, .int .i64 i] w (MstEnd w0 g (Sp.mstep code i s)) := by
  have hM := h
  obtain ⟨hg0, hbg, hro, hrd⟩ := h
  obtain ⟨gb, cap, rfl, hbgb, hgblt, cells, hcells⟩ := Kd.R_form hro hn
  have hgne : gb ≠ g := (hro.1 gb (by simp [Value.ownBlock])).1
  obtain ⟨ad, A4, c4, rfl, e0, -⟩ := at_TInst (Kd.C_below hC HB) (i : Int) (by omega) (by omega)
  rw [Int.toNat_natCast] at e0
  obtain ⟨b1, b2, b3, b4, b5⟩ := hI
  have hi1 : (0 : Int) ≤ (i : Int) := by omega
  have hi2 : (i : Int) < (code.length : Int) := by omega
  obtain ⟨op, hope⟩ : ∃ op, op = (rd_TInst code i).f0 := ⟨_, rfl⟩
  rw [← hope] at hop e0
  obtain ⟨j, hj⟩ : ∃ j, s.o.length = j + 1 := ⟨s.o.length - 1, by omega⟩
  obtain ⟨q0, q1⟩ := b5 (j : Int) (by omega) (by omega)
  have hlast : s.last = rd_TSpan s.o (j : Int) := by unfold Sp.MSt.last; rw [hj]; congr 1; omega
  obtain ⟨cs, hcl, hcM, hcc, hcf⟩ := Kd.R_elem hro zSpan (j : Int) (by omega) (by omega)
  have hcs := kSpan_openM hcM
  subst hcs
  rw [Int.toNat_natCast] at hcc hcf
  obtain ⟨z, hz⟩ : ∃ z, z = rd_TSpan s.o (j : Int) := ⟨_, rfl⟩
  rw [show s.o.getD j zSpan = z from hz.symm] at hcc
  rw [← hz] at hlast q0 q1
  have m0 : w.cell? ⟨gb, j * 3, none⟩ = some (.int .i64 z.f0) := hcc 0 _ rfl
  have m1 : w.cell? ⟨gb, j * 3 + 1, none⟩ = some (.int .i64 z.f1) := hcc 1 _ rfl
  have m2 : w.cell? ⟨gb, j * 3 + 2, none⟩ = some (.int .i64 z.f2) := hcc 2 _ rfl
  have m3 : w.frozen? ⟨gb, j * 3 + 1, none⟩ = false := hcf 1
  have hnj : ((s.o.length : Nat) : Int) = (j : Int) + 1 := by omega
  have c0 : w.cell? ⟨g, 0, none⟩ = some (.slice (some ⟨gb, 0, none⟩) (j + 1) cap) := by rw [← hj]; exact (blk_cell hg0 0).trans rfl
  have c1 : w.cell? ⟨g, 1, none⟩ = some (vd) := (blk_cell hg0 1).trans rfl
  have c2 : w.cell? ⟨g, 2, none⟩ = some (.int .i64 s.deep) := (blk_cell hg0 2).trans rfl
  have f0 := blk_frozen hg0 0
  have f1 := blk_frozen hg0 1
  have f2 := blk_frozen hg0 2
  have glt := blk_lt hg0
  have hj0 : (0 : Int) ≤ (j : Int) := by omega
  have hj1 : (j : Int) < (j : Int) + 1 := by omega
  have hj2 : (j : Int) < ((j + 1 : Nat) : Int) := by omega
  have hn1 : (((j : Int) + 1) == 0) = false := by simp; omega
  have hn2 : ((((j + 1 : Nat) : Int)) == 0) = false := by simp; omega
  have H3 := Lib.hid (fun w => (show Calls Tryz.prog 87 #[.int .i64 op] w (fun e w' => e = .returned (.bool false) ∧ w = w') from (show Sp.opens op = false by (simp only [Sp.opens, Sp.within, decide_eq_false_iff_not]; omega)) ▸ ops_Opens op w))
  obtain ⟨ad2, A5, c5, ha2, u0, -⟩ := at_TInst (Kd.C_below hC HB) z.f0 q0 q1
  obtain rfl : ad = ad2 := by injection ha2
  obtain ⟨op2, hop2⟩ : ∃ op2, op2 = (rd_TInst code z.f0).f0 := ⟨_, rfl⟩
  rw [← hop2] at u0
  by_cases h4 : op2 = 4
  · by_cases h1 : z.f1 = -1
    · have g1 : (op2 != 4) = false := by simpa using h4
      have g2 : (z.f1 != -1) = false := by simpa using h1
      by_cases hm : (i : Int) < code.length - 1
      · have hr : Sp.mstep code i s = some ⟨s.o.set (s.o.length - 1) ⟨z.f0, i, z.f2⟩, s.d, s.deep⟩ := by unfold Sp.mstep; dsimp only; rw [← hope, hop, if_neg (by decide), if_pos rfl, hlast]; rw [if_neg (by rw [← hop2]; omega)]; simp [hm]
        rw [hr]
        clear hr hop2 hope h4 h1
        obtain rfl : op = 5 := hop
        have hm1 : decide ((i : Int) < (code.length : Int) - 1) = true := by simp; omega
        clear hm
        have hw : wrap64 ((code.length : Int) - 1) = (code.length : Int) - 1 := by unfold wrap64; omega
        have hw0 := w64j (j := j) (by omega)
        have HG := Lib.hid hg0; have HRO := Lib.hid hro; have HRD := Lib.hid hrd; have HB0 := Lib.hid HB; have HI := Lib.hid b5; have HM := Lib.hid hM; have HCM := Lib.hid hcM; have HCC := Lib.hid hcc; have HJ := Lib.hid hj; have HZ := Lib.hid hz; have HNE := Lib.hid hgne
        clear hg0 hro hrd HB hC b5 hM hcells hcM hcc hcf hcl hj hz hnj hn hlast hgblt
        go_enter Tryz.func80, Tryz.ntmps80
        go_wp2_with fail
        go_quiet (fail)
        go_wp2_with (first | (go_at_call 87; with_reducible refine (H3.out _).mono ?_; rintro e w' ⟨rfl, rfl⟩))
        go_ret
        refine ⟨rfl, below_setc (pw_below_drewN HB0.out _) hbgb, fun s' hs => ?_⟩
        injection hs with hs; subst hs
        exact ⟨_, _, mst_elsed (mst_drewN HM.out _) HJ.out HZ.out⟩
      · have hr : Sp.mstep code i s = none := by unfold Sp.mstep; dsimp only; rw [← hope, hop, if_neg (by decide), if_pos rfl, hlast]; rw [if_neg (by rw [← hop2]; omega)]; simp [hm]
        rw [hr]
        clear hr hop2 hope h4 h1
        obtain rfl : op = 5 := hop
        have hm1 : decide ((i : Int) < (code.length : Int) - 1) = false := by simp; omega
        clear hm
        have hw : wrap64 ((code.length : Int) - 1) = (code.length : Int) - 1 := by unfold wrap64; omega
        have hw0 := w64j (j := j) (by omega)
        have HG := Lib.hid hg0; have HRO := Lib.hid hro; have HRD := Lib.hid hrd; have HB0 := Lib.hid HB; have HI := Lib.hid b5; have HM := Lib.hid hM; have HCM := Lib.hid hcM; have HCC := Lib.hid hcc; have HJ := Lib.hid hj; have HZ := Lib.hid hz; have HNE := Lib.hid hgne
        clear hg0 hro hrd HB hC b5 hM hcells hcM hcc hcf hcl hj hz hnj hn hlast hgblt
        go_enter Tryz.func80, Tryz.ntmps80
        go_wp2_with fail
        go_quiet (fail)
        go_wp2_with (first | (go_at_call 87; with_reducible refine (H3.out _).mono ?_; rintro e w' ⟨rfl, rfl⟩))
        go_ret
        exact ⟨rfl, below_setc (pw_below_drewN HB0.out _) hbgb, fun s' hs => by cases hs⟩
    · have g1 : (op2 != 4) = false := by simpa using h4
      have g2 : (z.f1 != -1) = true := by simpa using h1
      have hr : Sp.mstep code i s = none := by unfold Sp.mstep; dsimp only; rw [← hope, hop, if_neg (by decide), if_pos rfl, hlast]; rw [if_pos (.inr (.inr h1))]
      rw [hr]
      clear hr hop2 hope h4 h1
      obtain rfl : op = 5 := hop
      have hw0 := w64j (j := j) (by omega)
      have HG := Lib.hid hg0; have HRO := Lib.hid hro; have HRD := Lib.hid hrd; have HB0 := Lib.hid HB; have HI := Lib.hid b5; have HM := Lib.hid hM; have HCM := Lib.hid hcM; have HCC := Lib.hid hcc; have HJ := Lib.hid hj; have HZ := Lib.hid hz; have HNE := Lib.hid hgne
      clear hg0 hro hrd HB hC b5 hM hcells hcM hcc hcf hcl hj hz hnj hn hlast hgblt
      go_enter Tryz.func80, Tryz.ntmps80
      go_wp2_with fail
      go_quiet (fail)
      go_wp2_with (first | (go_at_call 87; with_reducible refine (H3.out _).mono ?_; rintro e w' ⟨rfl, rfl⟩))
      go_ret
      exact ⟨rfl, pw_below_drewN HB0.out _, fun s' hs => by cases hs⟩
  · have g1 : (op2 != 4) = true := by simpa using h4
    have hr : Sp.mstep code i s = none := by unfold Sp.mstep; dsimp only; rw [← hope, hop, if_neg (by decide), if_pos rfl, hlast]; rw [if_pos (.inr (.inl (by rw [← hop2]; exact h4)))]
    rw [hr]
    clear hr hop2 hope h4
    obtain rfl : op = 5 := hop
    have hw0 := w64j (j := j) (by omega)
    have HG := Lib.hid hg0; have HRO := Lib.hid hro; have HRD := Lib.hid hrd; have HB0 := Lib.hid HB; have HI := Lib.hid b5; have HM := Lib.hid hM; have HCM := Lib.hid hcM; have HCC := Lib.hid hcc; have HJ := Lib.hid hj; have HZ := Lib.hid hz; have HNE := Lib.hid hgne
    clear hg0 hro hrd HB hC b5 hM hcells hcM hcc hcf hcl hj hz hnj hn hlast hgblt
    go_enter Tryz.func80, Tryz.ntmps80
    go_wp2_with fail
    go_quiet (fail)
    go_wp2_with (first | (go_at_call 87; with_reducible refine (H3.out _).mono ?_; rintro e w' ⟨rfl, rfl⟩))
    go_ret
    exact ⟨rfl, pw_below_drewN HB0.out _, fun s' hs => by cases hs⟩
set_option maxRecDepth 100000 in
set_option maxHeartbeats 8000000 in
theorem mstep_end1 (w0 w : World) (HB : Below w0.heap.size w0 w) (A : Option Addr) (c : Nat) (code : List SInst) (hC : kInst.C w0 A code.length code) (i : Nat) (hi : i < code.length) (hl : code.length ≤ 65536) (g : Nat) (s : Sp.MSt) (vo vd : Value) (h : MstAt w w0.heap.size g s vo vd) (hI : Sp.MInv code i s) (hop : (rd_TInst code i).f0 = 11) (hn : 0 < s.o.length) : Calls Tryz.prog 80 #[.pointer (some ⟨g, 0, none⟩), .slice A code.length c, .int .i64 i] w (MstEnd w0 g (Sp.mstep code i s)) := by
  have hM := h
  obtain ⟨hg0, hbg, hro, hrd⟩ := h
  obtain ⟨gb, cap, rfl, hbgb, hgblt, cells, hcells⟩ := Kd.R_form hro hn
  have hgne : gb ≠ g := (hro.1 gb (by simp [Value.ownBlock])).1
  obtain ⟨ad, A4, c4, rfl, e0, -⟩ := at_TInst (Kd.C_below hC HB) (i : Int) (by omega) (by omega)
  rw [Int.toNat_natCast] at e0
  obtain ⟨b1, b2, b3, b4, b5⟩ := hI
  have hi1 : (0 : Int) ≤ (i : Int) := by omega
  have hi2 : (i : Int) < (code.length : Int) := by omega
  obtain ⟨op, hope⟩ : ∃ op, op = (rd_TInst code i).f0 := ⟨_, rfl⟩
  rw [← hope] at hop e0
  obtain ⟨j, hj⟩ : ∃ j, s.o.length = j + 1 := ⟨s.o.length - 1, by omega⟩
  obtain ⟨q0, q1⟩ := b5 (j : Int) (by omega) (by omega)
  have hlast : s.last = rd_TSpan s.o (j : Int) := by unfold Sp.MSt.last; rw [hj]; congr 1; omega
  obtain ⟨cs, hcl, hcM, hcc, hcf⟩ := Kd.R_elem hro zSpan (j : Int) (by omega) (by omega)
  have hcs := kSpan_openM hcM
  subst hcs
  rw [Int.toNat_natCast] at hcc hcf
  obtain ⟨z, hz⟩ : ∃ z, z = rd_TSpan s.o (j : Int) := ⟨_, rfl⟩
  rw [show s.o.getD j zSpan = z from hz.symm] at hcc
  rw [← hz] at hlast q0 q1
  have m0 : w.cell? ⟨gb, j * 3, none⟩ = some (.int .i64 z.f0) := hcc 0 _ rfl
  have m1 : w.cell? ⟨gb, j * 3 + 1, none⟩ = some (.int .i64 z.f1) := hcc 1 _ rfl
  have m2 : w.cell? ⟨gb, j * 3 + 2, none⟩ = some (.int .i64 z.f2) := hcc 2 _ rfl
  have m3 : w.frozen? ⟨gb, j * 3 + 1, none⟩ = false := hcf 1
  have hnj : ((s.o.length : Nat) : Int) = (j : Int) + 1 := by omega
  have c0 : w.cell? ⟨g, 0, none⟩ = some (.slice (some ⟨gb, 0, none⟩) (j + 1) cap) := by rw [← hj]; exact (blk_cell hg0 0).trans rfl
  have c1 : w.cell? ⟨g, 1, none⟩ = some (vd) := (blk_cell hg0 1).trans rfl
  have c2 : w.cell? ⟨g, 2, none⟩ = some (.int .i64 s.deep) := (blk_cell hg0 2).trans rfl
  have f0 := blk_frozen hg0 0
  have f1 := blk_frozen hg0 1
  have f2 := blk_frozen hg0 2
  have glt := blk_lt hg0
  have hj0 : (0 : Int) ≤ (j : Int) := by omega
  have hj1 : (j : Int) < (j : Int) + 1 := by omega
  have hj2 : (j : Int) < ((j + 1 : Nat) : Int) := by omega
  have hn1 : (((j : Int) + 1) == 0) = false := by simp; omega
  have hn2 : ((((j + 1 : Nat) : Int)) == 0) = false := by simp; omega
  have H3 := Lib.hid (fun w => (show Calls Tryz.prog 87 #[.int .i64 op] w (fun e w' => e = .returned (.bool false) ∧ w = w') from (show Sp.opens op = false by (simp only [Sp.opens, Sp.within, decide_eq_false_iff_not]; omega)) ▸ ops_Opens op w))
  obtain ⟨Q, kd, rfl⟩ := Kd.R_slice hrd
  by_cases hm : (i : Int) < code.length - 1
  · have hr : Sp.mstep code i s = some ⟨s.o.take (s.o.length - 1), s.d ++ [⟨z.f0, z.f1, i⟩], s.deep⟩ := by unfold Sp.mstep; dsimp only; rw [← hope, hop, if_neg (by decide), if_neg (by decide), if_pos ⟨rfl, hn⟩, hlast]; simp [hm]
    rw [hr]
    clear hr hope
    obtain rfl : op = 11 := hop
    have hm1 : decide ((i : Int) < (code.length : Int) - 1) = true := by simp; omega
    clear hm
    have hw : wrap64 ((code.length : Int) - 1) = (code.length : Int) - 1 := by unfold wrap64; omega
    have hnp : decide (0 < (j : Int) + 1) = true := decide_eq_true (by omega)
    have hwi : IntKind.i64.wrap (j : Int) = (j : Int) := (wi64 _).trans (w64j (by omega))
    have hcap : (j : Int) ≤ (cap : Int) := by have := (Kd.R_reads' hro).2.1; omega
    have HGL := Lib.hid (show g < w.heap.size ∧ gb < w.heap.size from ⟨glt, hgblt⟩)
    have hw0 := w64j (j := j) (by omega)
    have HG := Lib.hid hg0; have HRO := Lib.hid hro; have HRD := Lib.hid hrd; have HB0 := Lib.hid HB; have HI := Lib.hid b5; have HM := Lib.hid hM; have HCM := Lib.hid hcM; have HCC := Lib.hid hcc; have HJ := Lib.hid hj; have HZ := Lib.hid hz; have HNE := Lib.hid hgne
    clear hg0 hro hrd HB hC b5 hM hcells hcM hcc hcf hcl hj hz hnj hn hlast hgblt
    go_enter Tryz.func80, Tryz.ntmps80
    go_wp2_with fail
    go_quiet (fail)
    generalize hW : w.drewN nq = W
    replace c0 := dr_cell hW c0; replace c1 := dr_cell hW c1; replace c2 := dr_cell hW c2; replace m0 := dr_cell hW m0; replace m1 := dr_cell hW m1; replace m2 := dr_cell hW m2; replace f0 := dr_frozen hW f0; replace f1 := dr_frozen hW f1; replace f2 := dr_frozen hW f2; replace glt := dr_size hW glt
    have HG := Lib.hid (dr_heap hW HG.out); have HRO := Lib.hid (dr_spans hW HRO.out); have HRD := Lib.hid (dr_spans hW HRD.out); have HB0 := Lib.hid (dr_below hW HB0.out); have HGL := Lib.hid (And.intro (dr_size hW HGL.out.1) (dr_size hW HGL.out.2))
    clear hW m3
    go_wp2_with (first | (go_at_call 87; with_reducible refine (H3.out _).mono ?_; rintro e w' ⟨rfl, rfl⟩))
    have x0 : (W.alloc (.cells #[.int .i64 z.f0, .int .i64 z.f1, .int .i64 i] 151)).drew.cell? ⟨g, 0, none⟩ = some (.slice (some ⟨gb, 0, none⟩) (j + 1) cap) := cell_al c0
    have x1 : (W.alloc (.cells #[.int .i64 z.f0, .int .i64 z.f1, .int .i64 i] 151)).drew.cell? ⟨g, 1, none⟩ = some (.slice Q s.d.length kd) := cell_al c1
    have x2 : (W.alloc (.cells #[.int .i64 z.f0, .int .i64 z.f1, .int .i64 i] 151)).drew.cell? ⟨W.heap.size, 0, none⟩ = some (.int .i64 z.f0) := by simp [go_sem]
    have x3 : (W.alloc (.cells #[.int .i64 z.f0, .int .i64 z.f1, .int .i64 i] 151)).drew.cell? ⟨W.heap.size, 1, none⟩ = some (.int .i64 z.f1) := by simp [go_sem]
    have x4 : (W.alloc (.cells #[.int .i64 z.f0, .int .i64 z.f1, .int .i64 i] 151)).drew.cell? ⟨W.heap.size, 2, none⟩ = some (.int .i64 i) := by simp [go_sem]
    refine start_ (n := 22) (S := fun w' => w'.cell? ⟨g, 0, none⟩ = some (.slice (some ⟨gb, 0, none⟩) (j + 1) cap) ∧ w'.cell? ⟨g, 1, none⟩ = some (.slice Q s.d.length kd) ∧ w'.cell? ⟨W.heap.size, 0, none⟩ = some (.int .i64 z.f0) ∧ w'.cell? ⟨W.heap.size, 1, none⟩ = some (.int .i64 z.f1) ∧ w'.cell? ⟨W.heap.size, 2, none⟩ = some (.int .i64 i)) (ds := [18, 21]) #[false, false, false, false, false, false, false, false, false, false, false, false, false, false, false, false, false, false, false, false, false, false] (by kernel_rfl) rfl rfl ⟨x0, x1, x2, x3, x4⟩ (fun hHeld => ?_)
    generalize hV : (W.alloc (.cells #[.int .i64 z.f0, .int .i64 z.f1, .int .i64 i] 151)).drew = V at hHeld ⊢
    have vB : Below w0.heap.size w0 V := hV ▸ below_drew1 (below_alloc HB0.out _)
    have vR : SpansR V w0.heap.size (fun k => k ≠ g ∧ some k ≠ (Value.slice (some ⟨gb, 0, none⟩) s.o.length cap).ownBlock) (.slice Q s.d.length kd) s.d := hV ▸ Kd.R_drew (Kd.R_alloc HRD.out _)
    have vO : SpansR V w0.heap.size (fun k => k ≠ g ∧ some k ≠ (Value.slice Q s.d.length kd).ownBlock) (.slice (some ⟨gb, 0, none⟩) s.o.length cap) s.o := hV ▸ Kd.R_drew (Kd.R_alloc HRO.out _)
    have vG : V.heap[g]? = some (.cells #[.slice (some ⟨gb, 0, none⟩) s.o.length cap, .slice Q s.d.length kd, .int .i64 s.deep] 147 (0, 0)) := hV ▸ blk_alloc HG.out _
    have vL := blk_lt vG
    have vX : V.heap.size = W.heap.size + 1 := by rw [← hV]; simp
    have vXlt : W.heap.size < V.heap.size := by omega
    have vXne : ¬ some W.heap.size = (Value.slice Q s.d.length kd).ownBlock := fun he => by have := Kd.R_lt HRD.out _ he.symm; omega
    have vHO := Lib.hid vO; have vHR := Lib.hid vR; have vHB := Lib.hid vB; have vHG := Lib.hid vG
    clear hV vO vR vB vG x0 x1 x2 x3 x4
    refine pure_ (i := 0) (N := some 103) (v := ?_) (a' := ?_) #[true, false, false, false, false, false, false, false, false, false, false, false, false, false, false, false, false, false, false, false, false, false] rfl rfl (by kernel_rfl) (fun _ _ _ h => h) (Or.inl ⟨by rfl, ?_⟩) ?_ ?_
    rotate_left
    · intro w'
      go_simp
      try with_reducible rfl
    rotate_left
    · simp only [Act.put, List.setIfInBounds_toArray, List.set_cons_zero, List.set_cons_succ, i64_w, i32_w]
      rfl
    refine pure_ (i := 1) (N := some 104) (v := ?_) (a' := ?_) #[true, true, false, false, false, false, false, false, false, false, false, false, false, false, false, false, false, false, false, false, false, false] rfl rfl (by kernel_rfl) (fun _ _ _ h => h) (Or.inl ⟨by rfl, ?_⟩) ?_ ?_
    rotate_left
    · intro w'
      go_simp
      try with_reducible rfl
    rotate_left
    · simp only [Act.put, List.setIfInBounds_toArray, List.set_cons_zero, List.set_cons_succ, i64_w, i32_w]
      rfl
    refine pure_ (i := 2) (N := some 105) (v := ?_) (a' := ?_) #[true, true, true, false, false, false, false, false, false, false, false, false, false, false, false, false, false, false, false, false, false, false] rfl rfl (by kernel_rfl) (fun _ _ _ h => h) (Or.inl ⟨by rfl, ?_⟩) ?_ ?_
    rotate_left
    · intro w'
      go_simp
      try with_reducible rfl
    rotate_left
    · simp only [Act.put, List.setIfInBounds_toArray, List.set_cons_zero, List.set_cons_succ, i64_w, i32_w]
      rfl
    refine pure_ (i := 3) (N := some 106) (v := ?_) (a' := ?_) #[true, true, true, true, false, false, false, false, false, false, false, false, false, false, false, false, false, false, false, false, false, false] rfl rfl (by kernel_rfl) (fun _ _ _ h => h) (Or.inl ⟨by rfl, ?_⟩) ?_ ?_
    rotate_left
    · intro w'
      go_simp
      try with_reducible rfl
    rotate_left
    · simp only [Act.put, List.setIfInBounds_toArray, List.set_cons_zero, List.set_cons_succ, i64_w, i32_w]
      rfl
    refine pure_ (i := 4) (N := some 107) (v := ?_) (a' := ?_) #[true, true, true, true, true, false, false, false, false, false, false, false, false, false, false, false, false, false, false, false, false, false] rfl rfl (by kernel_rfl) (fun _ _ _ h => h) (Or.inl ⟨by rfl, ?_⟩) ?_ ?_
    rotate_left
    · intro w'
      go_simp
      try with_reducible rfl
    rotate_left
    · simp only [Act.put, List.setIfInBounds_toArray, List.set_cons_zero, List.set_cons_succ, i64_w, i32_w]
      rfl
    refine take_ (i := 5) (N := some 108) (v := ?_) (a' := ?_) #[true, true, true, true, true, true, false, false, false, false, false, false, false, false, false, false, false, false, false, false, false, false] rfl rfl (by kernel_rfl) (fun _ _ _ h => h) (Or.inl ⟨by rfl, ?_⟩) hHeld ?_ ?_
    rotate_left
    · rintro w' ⟨s0, s1, s2, s3, s4⟩
      go_simp
      try with_reducible rfl
    rotate_left
    · simp only [Act.put, List.setIfInBounds_toArray, List.set_cons_zero, List.set_cons_succ, i64_w, i32_w]
      rfl
    refine pure_ (i := 6) (N := some 109) (v := ?_) (a' := ?_) #[true, true, true, true, true, true, true, false, false, false, false, false, false, false, false, false, false, false, false, false, false, false] rfl rfl (by kernel_rfl) (fun _ _ _ h => h) (Or.inl ⟨by rfl, ?_⟩) ?_ ?_
    rotate_left
    · intro w'
      go_simp
      try with_reducible rfl
    rotate_left
    · simp only [Act.put, List.setIfInBounds_toArray, List.set_cons_zero, List.set_cons_succ, i64_w, i32_w]
      rfl
    refine pure_ (i := 7) (N := some 110) (v := ?_) (a' := ?_) #[true, true, true, true, true, true, true, true, false, false, false, false, false, false, false, false, false, false, false, false, false, false] rfl rfl (by kernel_rfl) (fun _ _ _ h => h) (Or.inl ⟨by rfl, ?_⟩) ?_ ?_
    rotate_left
    · intro w'
      go_simp
      try with_reducible rfl
    rotate_left
    · simp only [Act.put, List.setIfInBounds_toArray, List.set_cons_zero, List.set_cons_succ, i64_w, i32_w]
      rfl
    refine pure_ (i := 8) (N := some 111) (v := ?_) (a' := ?_) #[true, true, true, true, true, true, true, true, true, false, false, false, false, false, false, false, false, false, false, false, false, false] rfl rfl (by kernel_rfl) (fun _ _ _ h => h) (Or.inl ⟨by rfl, ?_⟩) ?_ ?_
    rotate_left
    · intro w'
      go_simp
      try with_reducible rfl
    rotate_left
    · simp only [Act.put, List.setIfInBounds_toArray, List.set_cons_zero, List.set_cons_succ, i64_w, i32_w]
      rfl
    refine pure_ (i := 9) (N := some 112) (v := ?_) (a' := ?_) #[true, true, true, true, true, true, true, true, true, true, false, false, false, false, false, false, false, false, false, false, false, false] rfl rfl (by kernel_rfl) (fun _ _ _ h => h) (Or.inl ⟨by rfl, ?_⟩) ?_ ?_
    rotate_left
    · intro w'
      go_simp
      try with_reducible rfl
    rotate_left
    · simp only [Act.put, List.setIfInBounds_toArray, List.set_cons_zero, List.set_cons_succ, i64_w, i32_w]
      rfl
    refine pure_ (i := 10) (N := some 113) (v := ?_) (a' := ?_) #[true, true, true, true, true, true, true, true, true, true, true, false, false, false, false, false, false, false, false, false, false, false] rfl rfl (by kernel_rfl) (fun _ _ _ h => h) (Or.inl ⟨by rfl, ?_⟩) ?_ ?_
    rotate_left
    · intro w'
      go_simp
      try with_reducible rfl
    rotate_left
    · simp only [Act.put, List.setIfInBounds_toArray, List.set_cons_zero, List.set_cons_succ, i64_w, i32_w]
      rfl
    refine pure_ (i := 11) (N := some 114) (v := ?_) (a' := ?_) #[true, true, true, true, true, true, true, true, true, true, true, true, false, false, false, false, false, false, false, false, false, false] rfl rfl (by kernel_rfl) (fun _ _ _ h => h) (Or.inl ⟨by rfl, ?_⟩) ?_ ?_
    rotate_left
    · intro w'
      go_simp
      try with_reducible rfl
    rotate_left
    · simp only [Act.put, List.setIfInBounds_toArray, List.set_cons_zero, List.set_cons_succ, i64_w, i32_w]
      rfl
    refine take_ (i := 12) (N := some 115) (v := ?_) (a' := ?_) #[true, true, true, true, true, true, true, true, true, true, true, true, true, false, false, false, false, false, false, false, false, false] rfl rfl (by kernel_rfl) (fun _ _ _ h => h) (Or.inl ⟨by rfl, ?_⟩) hHeld ?_ ?_
    rotate_left
    · rintro w' ⟨s0, s1, s2, s3, s4⟩
      go_simp
      try with_reducible rfl
    rotate_left
    · simp only [Act.put, List.setIfInBounds_toArray, List.set_cons_zero, List.set_cons_succ, i64_w, i32_w]
      rfl
    refine take_ (i := 13) (N := some 116) (v := ?_) (a' := ?_) #[true, true, true, true, true, true, true, true, true, true, true, true, true, true, false, false, false, false, false, false, false, false] rfl rfl (by kernel_rfl) (fun _ _ _ h => h) (Or.inl ⟨by rfl, ?_⟩) hHeld ?_ ?_
    rotate_left
    · rintro w' ⟨s0, s1, s2, s3, s4⟩
      go_simp
      try with_reducible rfl
    rotate_left
    · simp only [Act.put, List.setIfInBounds_toArray, List.set_cons_zero, List.set_cons_succ, i64_w, i32_w]
      rfl
    refine one_ (i := 14) (N := some 117) #[true, true, true, true, true, true, true, true, true, true, true, true, true, true, true, false, false, false, false, false, false, false] rfl rfl (by kernel_rfl) (by decide) (fun K hK => ?_)
    rw [if_pos (by rfl)]
    go_simp
    refine hK.out _ _ (by obtain ⟨s0, s1, s2, s3, s4⟩ := hHeld; exact ⟨cell_al s0, cell_al s1, cell_al s2, cell_al s3, cell_al s4⟩) (fun hHeld => ?_)
    clear hK K
    refine one_ (i := 15) (N := some 118) #[true, true, true, true, true, true, true, true, true, true, true, true, true, true, true, true, false, false, false, false, false, false] rfl rfl (by kernel_rfl) (by decide) (fun K hK => ?_)
    refine Kd.R_append_step kSpan (w0 := w0) (W := V) w0.heap.size (by rfl) (.tmp 115) (.tmp 117) 101 151 (.agg #[.int .i64 0, .int .i64 0, .int .i64 0]) 24 (by rfl) Tryz.underlying101 infoSpan rfl (Nat.zero_lt_succ 2) (Nat.zero_lt_succ 23) (.slice Q s.d.length kd) s.d ⟨z.f0, z.f1, i⟩ [.int .i64 z.f0, .int .i64 z.f1, .int .i64 i] (fun k => k ≠ g ∧ some k ≠ (Value.slice (some ⟨gb, 0, none⟩) s.o.length cap).ownBlock) (fun _ => False) (by rfl) (by rw [vX]; rfl) (kSpan_mkM _ _ _ _) (fun _ h => h.elim) ?fr vHR.out vHB.out vHB.out.size (by omega) ?_
    case fr => exact fun k hk => ⟨by omega, fun he => by have := Kd.R_lt vHO.out k he.symm; omega⟩
    intro v1 w1 hR hB hG hat
    obtain ⟨P1, kk1, rfl⟩ := Kd.R_slice hR
    simp only [List.length_append, List.length_cons, List.length_nil, Nat.zero_add] at hR hat
    have hg1 : w1.heap[g]? = some (.cells #[.slice (some ⟨gb, 0, none⟩) s.o.length cap, .slice Q s.d.length kd, .int .i64 s.deep] 147 (0, 0)) := blk_grown vHG.out hG (Kd.R_away vHR.out (fun k hk => hk.1))
    have hxx : ∀ q u, V.cell? ⟨W.heap.size, q, none⟩ = some u → w1.cell? ⟨W.heap.size, q, none⟩ = some u := fun q u h => hG.cell h (fun he => vXne he)
    have HO1 := Lib.hid (Kd.R_after (ok := fun k => k ≠ g) (Kd.R_mono vHO.out (fun k hk => ⟨hk.1, hk.2⟩)) hG hat)
    have HR1 := Lib.hid hR; have HB1 := Lib.hid hB; have HG1 := Lib.hid hg1
    refine hK.out _ _ (by obtain ⟨s0, s1, s2, s3, s4⟩ := hHeld; exact ⟨by rw [← HJ.out]; exact (blk_cell HG1.out 0).trans rfl, (blk_cell HG1.out 1).trans rfl, hxx 0 _ (cell_unal s2 vXlt), hxx 1 _ (cell_unal s3 vXlt), hxx 2 _ (cell_unal s4 vXlt)⟩) (fun hHeld => ?_)
    clear hK K
    refine norm_ (a' := ?_) ?_ ?_
    rotate_left
    · show Act.put _ (some 118) _ = _
      simp only [Act.put, List.setIfInBounds_toArray, List.set_cons_zero, List.set_cons_succ, i64_w, i32_w]
      rfl
    have y0 := (blk_cell HG1.out 0).trans rfl; have y1 := (blk_cell HG1.out 1).trans rfl; have z0 := blk_frozen HG1.out 0; have z1 := blk_frozen HG1.out 1
    refine pure_ (i := 16) (N := some 119) (v := ?_) (a' := ?_) #[true, true, true, true, true, true, true, true, true, true, true, true, true, true, true, true, true, false, false, false, false, false] rfl rfl (by kernel_rfl) (fun _ _ _ h => h) (Or.inl ⟨by rfl, ?_⟩) ?_ ?_
    rotate_left
    · intro w'
      go_simp
      try with_reducible rfl
    rotate_left
    · simp only [Act.put, List.setIfInBounds_toArray, List.set_cons_zero, List.set_cons_succ, i64_w, i32_w]
      rfl
    refine pure_ (i := 17) (N := some 120) (v := ?_) (a' := ?_) #[true, true, true, true, true, true, true, true, true, true, true, true, true, true, true, true, true, true, false, false, false, false] rfl rfl (by kernel_rfl) (fun _ _ _ h => h) (Or.inl ⟨by rfl, ?_⟩) ?_ ?_
    rotate_left
    · intro w'
      go_simp
      try with_reducible rfl
    rotate_left
    · simp only [Act.put, List.setIfInBounds_toArray, List.set_cons_zero, List.set_cons_succ, i64_w, i32_w]
      rfl
    refine last_ (i := 18) (N := none) #[true, true, true, true, true, true, true, true, true, true, true, true, true, true, true, true, true, true, true, false, false, false] rfl rfl (by kernel_rfl) (by decide) (fun K hK => ?_)
    rw [if_pos (by rfl)]
    go_simp
    refine hK.out _ _ ?_
    clear hK K
    refine pure_ (i := 19) (N := some 121) (v := ?_) (a' := ?_) #[true, true, true, true, true, true, true, true, true, true, true, true, true, true, true, true, true, true, true, true, false, false] rfl rfl (by kernel_rfl) (fun _ _ _ h => h) (Or.inl ⟨by rfl, ?_⟩) ?_ ?_
    rotate_left
    · intro w'
      go_simp
      try with_reducible rfl
    rotate_left
    · simp only [Act.put, List.setIfInBounds_toArray, List.set_cons_zero, List.set_cons_succ, i64_w, i32_w]
      rfl
    refine pure_ (i := 20) (N := some 122) (v := ?_) (a' := ?_) #[true, true, true, true, true, true, true, true, true, true, true, true, true, true, true, true, true, true, true, true, true, false] rfl rfl (by kernel_rfl) (fun _ _ _ h => h) (Or.inl ⟨by rfl, ?_⟩) ?_ ?_
    rotate_left
    · intro w'
      go_simp
      try with_reducible rfl
    rotate_left
    · simp only [Act.put, List.setIfInBounds_toArray, List.set_cons_zero, List.set_cons_succ, i64_w, i32_w]
      rfl
    refine last_ (i := 21) (N := none) #[true, true, true, true, true, true, true, true, true, true, true, true, true, true, true, true, true, true, true, true, true, true] rfl rfl (by kernel_rfl) (by decide) (fun K hK => ?_)
    rw [if_pos (by rfl)]
    go_simp
    refine hK.out _ _ ?_
    clear hK K
    refine done_ (by kernel_rfl) ?_
    go_wp2_with fail
    go_ret
    refine ⟨rfl, below_setc (below_setc HB1.out hbg) hbg, fun s' hs => ?_⟩
    injection hs with hs; subst hs
    exact ⟨_, _, mst_ended HG1.out hbg HJ.out HO1.out HR1.out⟩
  · have hr : Sp.mstep code i s = none := by unfold Sp.mstep; dsimp only; rw [← hope, hop, if_neg (by decide), if_neg (by decide), if_pos ⟨rfl, hn⟩, hlast]; simp [hm]
    rw [hr]
    clear hr hope
    obtain rfl : op = 11 := hop
    have hm1 : decide ((i : Int) < (code.length : Int) - 1) = false := by simp; omega
    clear hm
    have hw : wrap64 ((code.length : Int) - 1) = (code.length : Int) - 1 := by unfold wrap64; omega
    have hnp : decide (0 < (j : Int) + 1) = true := decide_eq_true (by omega)
    have hwi : IntKind.i64.wrap (j : Int) = (j : Int) := (wi64 _).trans (w64j (by omega))
    have hcap : (j : Int) ≤ (cap : Int) := by have := (Kd.R_reads' hro).2.1; omega
    have HGL := Lib.hid (show g < w.heap.size ∧ gb < w.heap.size from ⟨glt, hgblt⟩)
    have hw0 := w64j (j := j) (by omega)
    have HG := Lib.hid hg0; have HRO := Lib.hid hro; have HRD := Lib.hid hrd; have HB0 := Lib.hid HB; have HI := Lib.hid b5; have HM := Lib.hid hM; have HCM := Lib.hid hcM; have HCC := Lib.hid hcc; have HJ := Lib.hid hj; have HZ := Lib.hid hz; have HNE := Lib.hid hgne
    clear hg0 hro hrd HB hC b5 hM hcells hcM hcc hcf hcl hj hz hnj hn hlast hgblt
    go_enter Tryz.func80, Tryz.ntmps80
    go_wp2_with fail
    go_quiet (fail)
    generalize hW : w.drewN nq = W
    replace c0 := dr_cell hW c0; replace c1 := dr_cell hW c1; replace c2 := dr_cell hW c2; replace m0 := dr_cell hW m0; replace m1 := dr_cell hW m1; replace m2 := dr_cell hW m2; replace f0 := dr_frozen hW f0; replace f1 := dr_frozen hW f1; replace f2 := dr_frozen hW f2; replace glt := dr_size hW glt
    have HG := Lib.hid (dr_heap hW HG.out); have HRO := Lib.hid (dr_spans hW HRO.out); have HRD := Lib.hid (dr_spans hW HRD.out); have HB0 := Lib.hid (dr_below hW HB0.out); have HGL := Lib.hid (And.intro (dr_size hW HGL.out.1) (dr_size hW HGL.out.2))
    clear hW m3
    go_wp2_with (first | (go_at_call 87; with_reducible refine (H3.out _).mono ?_; rintro e w' ⟨rfl, rfl⟩))
    have x0 : (W.alloc (.cells #[.int .i64 z.f0, .int .i64 z.f1, .int .i64 i] 151)).drew.cell? ⟨g, 0, none⟩ = some (.slice (some ⟨gb, 0, none⟩) (j + 1) cap) := cell_al c0
    have x1 : (W.alloc (.cells #[.int .i64 z.f0, .int .i64 z.f1, .int .i64 i] 151)).drew.cell? ⟨g, 1, none⟩ = some (.slice Q s.d.length kd) := cell_al c1
    have x2 : (W.alloc (.cells #[.int .i64 z.f0, .int .i64 z.f1, .int .i64 i] 151)).drew.cell? ⟨W.heap.size, 0, none⟩ = some (.int .i64 z.f0) := by simp [go_sem]
    have x3 : (W.alloc (.cells #[.int .i64 z.f0, .int .i64 z.f1, .int .i64 i] 151)).drew.cell? ⟨W.heap.size, 1, none⟩ = some (.int .i64 z.f1) := by simp [go_sem]
    have x4 : (W.alloc (.cells #[.int .i64 z.f0, .int .i64 z.f1, .int .i64 i] 151)).drew.cell? ⟨W.heap.size, 2, none⟩ = some (.int .i64 i) := by simp [go_sem]
    refine start_ (n := 22) (S := fun w' => w'.cell? ⟨g, 0, none⟩ = some (.slice (some ⟨gb, 0, none⟩) (j + 1) cap) ∧ w'.cell? ⟨g, 1, none⟩ = some (.slice Q s.d.length kd) ∧ w'.cell? ⟨W.heap.size, 0, none⟩ = some (.int .i64 z.f0) ∧ w'.cell? ⟨W.heap.size, 1, none⟩ = some (.int .i64 z.f1) ∧ w'.cell? ⟨W.heap.size, 2, none⟩ = some (.int .i64 i)) (ds := [18, 21]) #[false, false, false, false, false, false, false, false, false, false, false, false, false, false, false, false, false, false, false, false, false, false] (by kernel_rfl) rfl rfl ⟨x0, x1, x2, x3, x4⟩ (fun hHeld => ?_)
    generalize hV : (W.alloc (.cells #[.int .i64 z.f0, .int .i64 z.f1, .int .i64 i] 151)).drew = V at hHeld ⊢
    have vB : Below w0.heap.size w0 V := hV ▸ below_drew1 (below_alloc HB0.out _)
    have vR : SpansR V w0.heap.size (fun k => k ≠ g ∧ some k ≠ (Value.slice (some ⟨gb, 0, none⟩) s.o.length cap).ownBlock) (.slice Q s.d.length kd) s.d := hV ▸ Kd.R_drew (Kd.R_alloc HRD.out _)
    have vO : SpansR V w0.heap.size (fun k => k ≠ g ∧ some k ≠ (Value.slice Q s.d.length kd).ownBlock) (.slice (some ⟨gb, 0, none⟩) s.o.length cap) s.o := hV ▸ Kd.R_drew (Kd.R_alloc HRO.out _)
    have vG : V.heap[g]? = some (.cells #[.slice (some ⟨gb, 0, none⟩) s.o.length cap, .slice Q s.d.length kd, .int .i64 s.deep] 147 (0, 0)) := hV ▸ blk_alloc HG.out _
    have vL := blk_lt vG
    have vX : V.heap.size = W.heap.size + 1 := by rw [← hV]; simp
    have vXlt : W.heap.size < V.heap.size := by omega
    have vXne : ¬ some W.heap.size = (Value.slice Q s.d.length kd).ownBlock := fun he => by have := Kd.R_lt HRD.out _ he.symm; omega
    have vHO := Lib.hid vO; have vHR := Lib.hid vR; have vHB := Lib.hid vB; have vHG := Lib.hid vG
    clear hV vO vR vB vG x0 x1 x2 x3 x4
    refine pure_ (i := 0) (N := some 103) (v := ?_) (a' := ?_) #[true, false, false, false, false, false, false, false, false, false, false, false, false, false, false, false, false, false, false, false, false, false] rfl rfl (by kernel_rfl) (fun _ _ _ h => h) (Or.inl ⟨by rfl, ?_⟩) ?_ ?_
    rotate_left
    · intro w'
      go_simp
      try with_reducible rfl
    rotate_left
    · simp only [Act.put, List.setIfInBounds_toArray, List.set_cons_zero, List.set_cons_succ, i64_w, i32_w]
      rfl
    refine pure_ (i := 1) (N := some 104) (v := ?_) (a' := ?_) #[true, true, false, false, false, false, false, false, false, false, false, false, false, false, false, false, false, false, false, false, false, false] rfl rfl (by kernel_rfl) (fun _ _ _ h => h) (Or.inl ⟨by rfl, ?_⟩) ?_ ?_
    rotate_left
    · intro w'
      go_simp
      try with_reducible rfl
    rotate_left
    · simp only [Act.put, List.setIfInBounds_toArray, List.set_cons_zero, List.set_cons_succ, i64_w, i32_w]
      rfl
    refine pure_ (i := 2) (N := some 105) (v := ?_) (a' := ?_) #[true, true, true, false, false, false, false, false, false, false, false, false, false, false, false, false, false, false, false, false, false, false] rfl rfl (by kernel_rfl) (fun _ _ _ h => h) (Or.inl ⟨by rfl, ?_⟩) ?_ ?_
    rotate_left
    · intro w'
      go_simp
      try with_reducible rfl
    rotate_left
    · simp only [Act.put, List.setIfInBounds_toArray, List.set_cons_zero, List.set_cons_succ, i64_w, i32_w]
      rfl
    refine pure_ (i := 3) (N := some 106) (v := ?_) (a' := ?_) #[true, true, true, true, false, false, false, false, false, false, false, false, false, false, false, false, false, false, false, false, false, false] rfl rfl (by kernel_rfl) (fun _ _ _ h => h) (Or.inl ⟨by rfl, ?_⟩) ?_ ?_
    rotate_left
    · intro w'
      go_simp
      try with_reducible rfl
    rotate_left
    · simp only [Act.put, List.setIfInBounds_toArray, List.set_cons_zero, List.set_cons_succ, i64_w, i32_w]
      rfl
    refine pure_ (i := 4) (N := some 107) (v := ?_) (a' := ?_) #[true, true, true, true, true, false, false, false, false, false, false, false, false, false, false, false, false, false, false, false, false, false] rfl rfl (by kernel_rfl) (fun _ _ _ h => h) (Or.inl ⟨by rfl, ?_⟩) ?_ ?_
    rotate_left
    · intro w'
      go_simp
      try with_reducible rfl
    rotate_left
    · simp only [Act.put, List.setIfInBounds_toArray, List.set_cons_zero, List.set_cons_succ, i64_w, i32_w]
      rfl
    refine take_ (i := 5) (N := some 108) (v := ?_) (a' := ?_) #[true, true, true, true, true, true, false, false, false, false, false, false, false, false, false, false, false, false, false, false, false, false] rfl rfl (by kernel_rfl) (fun _ _ _ h => h) (Or.inl ⟨by rfl, ?_⟩) hHeld ?_ ?_
    rotate_left
    · rintro w' ⟨s0, s1, s2, s3, s4⟩
      go_simp
      try with_reducible rfl
    rotate_left
    · simp only [Act.put, List.setIfInBounds_toArray, List.set_cons_zero, List.set_cons_succ, i64_w, i32_w]
      rfl
    refine pure_ (i := 6) (N := some 109) (v := ?_) (a' := ?_) #[true, true, true, true, true, true, true, false, false, false, false, false, false, false, false, false, false, false, false, false, false, false] rfl rfl (by kernel_rfl) (fun _ _ _ h => h) (Or.inl ⟨by rfl, ?_⟩) ?_ ?_
    rotate_left
    · intro w'
      go_simp
      try with_reducible rfl
    rotate_left
    · simp only [Act.put, List.setIfInBounds_toArray, List.set_cons_zero, List.set_cons_succ, i64_w, i32_w]
      rfl
    refine pure_ (i := 7) (N := some 110) (v := ?_) (a' := ?_) #[true, true, true, true, true, true, true, true, false, false, false, false, false, false, false, false, false, false, false, false, false, false] rfl rfl (by kernel_rfl) (fun _ _ _ h => h) (Or.inl ⟨by rfl, ?_⟩) ?_ ?_
    rotate_left
    · intro w'
      go_simp
      try with_reducible rfl
    rotate_left
    · simp only [Act.put, List.setIfInBounds_toArray, List.set_cons_zero, List.set_cons_succ, i64_w, i32_w]
      rfl
    refine pure_ (i := 8) (N := some 111) (v := ?_) (a' := ?_) #[true, true, true, true, true, true, true, true, true, false, false, false, false, false, false, false, false, false, false, false, false, false] rfl rfl (by kernel_rfl) (fun _ _ _ h => h) (Or.inl ⟨by rfl, ?_⟩) ?_ ?_
    rotate_left
    · intro w'
      go_simp
      try with_reducible rfl
    rotate_left
    · simp only [Act.put, List.setIfInBounds_toArray, List.set_cons_zero, List.set_cons_succ, i64_w, i32_w]
      rfl
    refine pure_ (i := 9) (N := some 112) (v := ?_) (a' := ?_) #[true, true, true, true, true, true, true, true, true, true, false, false, false, false, false, false, false, false, false, false, false, false] rfl rfl (by kernel_rfl) (fun _ _ _ h => h) (Or.inl ⟨by rfl, ?_⟩) ?_ ?_
    rotate_left
    · intro w'
      go_simp
      try with_reducible rfl
    rotate_left
    · simp only [Act.put, List.setIfInBounds_toArray, List.set_cons_zero, List.set_cons_succ, i64_w, i32_w]
      rfl
    refine pure_ (i := 10) (N := some 113) (v := ?_) (a' := ?_) #[true, true, true, true, true, true, true, true, true, true, true, false, false, false, false, false, false, false, false, false, false, false] rfl rfl (by kernel_rfl) (fun _ _ _ h => h) (Or.inl ⟨by rfl, ?_⟩) ?_ ?_
    rotate_left
    · intro w'
      go_simp
      try with_reducible rfl
    rotate_left
    · simp only [Act.put, List.setIfInBounds_toArray, List.set_cons_zero, List.set_cons_succ, i64_w, i32_w]
      rfl
    refine pure_ (i := 11) (N := some 114) (v := ?_) (a' := ?_) #[true, true, true, true, true, true, true, true, true, true, true, true, false, false, false, false, false, false, false, false, false, false] rfl rfl (by kernel_rfl) (fun _ _ _ h => h) (Or.inl ⟨by rfl, ?_⟩) ?_ ?_
    rotate_left
    · intro w'
      go_simp
      try with_reducible rfl
    rotate_left
    · simp only [Act.put, List.setIfInBounds_toArray, List.set_cons_zero, List.set_cons_succ, i64_w, i32_w]
      rfl
    refine take_ (i := 12) (N := some 115) (v := ?_) (a' := ?_) #[true, true, true, true, true, true, true, true, true, true, true, true, true, false, false, false, false, false, false, false, false, false] rfl rfl (by kernel_rfl) (fun _ _ _ h => h) (Or.inl ⟨by rfl, ?_⟩) hHeld ?_ ?_
    rotate_left
    · rintro w' ⟨s0, s1, s2, s3, s4⟩
      go_simp
      try with_reducible rfl
    rotate_left
    · simp only [Act.put, List.setIfInBounds_toArray, List.set_cons_zero, List.set_cons_succ, i64_w, i32_w]
      rfl
    refine take_ (i := 13) (N := some 116) (v := ?_) (a' := ?_) #[true, true, true, true, true, true, true, true, true, true, true, true, true, true, false, false, false, false, false, false, false, false] rfl rfl (by kernel_rfl) (fun _ _ _ h => h) (Or.inl ⟨by rfl, ?_⟩) hHeld ?_ ?_
    rotate_left
    · rintro w' ⟨s0, s1, s2, s3, s4⟩
      go_simp
      try with_reducible rfl
    rotate_left
    · simp only [Act.put, List.setIfInBounds_toArray, List.set_cons_zero, List.set_cons_succ, i64_w, i32_w]
      rfl
    refine one_ (i := 14) (N := some 117) #[true, true, true, true, true, true, true, true, true, true, true, true, true, true, true, false, false, false, false, false, false, false] rfl rfl (by kernel_rfl) (by decide) (fun K hK => ?_)
    rw [if_pos (by rfl)]
    go_simp
    refine hK.out _ _ (by obtain ⟨s0, s1, s2, s3, s4⟩ := hHeld; exact ⟨cell_al s0, cell_al s1, cell_al s2, cell_al s3, cell_al s4⟩) (fun hHeld => ?_)
    clear hK K
    refine one_ (i := 15) (N := some 118) #[true, true, true, true, true, true, true, true, true, true, true, true, true, true, true, true, false, false, false, false, false, false] rfl rfl (by kernel_rfl) (by decide) (fun K hK => ?_)
    refine Kd.R_append_step kSpan (w0 := w0) (W := V) w0.heap.size (by rfl) (.tmp 115) (.tmp 117) 101 151 (.agg #[.int .i64 0, .int .i64 0, .int .i64 0]) 24 (by rfl) Tryz.underlying101 infoSpan rfl (Nat.zero_lt_succ 2) (Nat.zero_lt_succ 23) (.slice Q s.d.length kd) s.d ⟨z.f0, z.f1, i⟩ [.int .i64 z.f0, .int .i64 z.f1, .int .i64 i] (fun k => k ≠ g ∧ some k ≠ (Value.slice (some ⟨gb, 0, none⟩) s.o.length cap).ownBlock) (fun _ => False) (by rfl) (by rw [vX]; rfl) (kSpan_mkM _ _ _ _) (fun _ h => h.elim) ?fr vHR.out vHB.out vHB.out.size (by omega) ?_
    case fr => exact fun k hk => ⟨by omega, fun he => by have := Kd.R_lt vHO.out k he.symm; omega⟩
    intro v1 w1 hR hB hG hat
    obtain ⟨P1, kk1, rfl⟩ := Kd.R_slice hR
    simp only [List.length_append, List.length_cons, List.length_nil, Nat.zero_add] at hR hat
    have hg1 : w1.heap[g]? = some (.cells #[.slice (some ⟨gb, 0, none⟩) s.o.length cap, .slice Q s.d.length kd, .int .i64 s.deep] 147 (0, 0)) := blk_grown vHG.out hG (Kd.R_away vHR.out (fun k hk => hk.1))
    have hxx : ∀ q u, V.cell? ⟨W.heap.size, q, none⟩ = some u → w1.cell? ⟨W.heap.size, q, none⟩ = some u := fun q u h => hG.cell h (fun he => vXne he)
    have HO1 := Lib.hid (Kd.R_after (ok := fun k => k ≠ g) (Kd.R_mono vHO.out (fun k hk => ⟨hk.1, hk.2⟩)) hG hat)
    have HR1 := Lib.hid hR; have HB1 := Lib.hid hB; have HG1 := Lib.hid hg1
    refine hK.out _ _ (by obtain ⟨s0, s1, s2, s3, s4⟩ := hHeld; exact ⟨by rw [← HJ.out]; exact (blk_cell HG1.out 0).trans rfl, (blk_cell HG1.out 1).trans rfl, hxx 0 _ (cell_unal s2 vXlt), hxx 1 _ (cell_unal s3 vXlt), hxx 2 _ (cell_unal s4 vXlt)⟩) (fun hHeld => ?_)
    clear hK K
    refine norm_ (a' := ?_) ?_ ?_
    rotate_left
    · show Act.put _ (some 118) _ = _
      simp only [Act.put, List.setIfInBounds_toArray, List.set_cons_zero, List.set_cons_succ, i64_w, i32_w]
      rfl
    have y0 := (blk_cell HG1.out 0).trans rfl; have y1 := (blk_cell HG1.out 1).trans rfl; have z0 := blk_frozen HG1.out 0; have z1 := blk_frozen HG1.out 1
    refine pure_ (i := 16) (N := some 119) (v := ?_) (a' := ?_) #[true, true, true, true, true, true, true, true, true, true, true, true, true, true, true, true, true, false, false, false, false, false] rfl rfl (by kernel_rfl) (fun _ _ _ h => h) (Or.inl ⟨by rfl, ?_⟩) ?_ ?_
    rotate_left
    · intro w'
      go_simp
      try with_reducible rfl
    rotate_left
    · simp only [Act.put, List.setIfInBounds_toArray, List.set_cons_zero, List.set_cons_succ, i64_w, i32_w]
      rfl
    refine pure_ (i := 17) (N := some 120) (v := ?_) (a' := ?_) #[true, true, true, true, true, true, true, true, true, true, true, true, true, true, true, true, true, true, false, false, false, false] rfl rfl (by kernel_rfl) (fun _ _ _ h => h) (Or.inl ⟨by rfl, ?_⟩) ?_ ?_
    rotate_left
    · intro w'
      go_simp
      try with_reducible rfl
    rotate_left
    · simp only [Act.put, List.setIfInBounds_toArray, List.set_cons_zero, List.set_cons_succ, i64_w, i32_w]
      rfl
    refine last_ (i := 18) (N := none) #[true, true, true, true, true, true, true, true, true, true, true, true, true, true, true, true, true, true, true, false, false, false] rfl rfl (by kernel_rfl) (by decide) (fun K hK => ?_)
    rw [if_pos (by rfl)]
    go_simp
    refine hK.out _ _ ?_
    clear hK K
    refine pure_ (i := 19) (N := some 121) (v := ?_) (a' := ?_) #[true, true, true, true, true, true, true, true, true, true, true, true, true, true, true, true, true, true, true, true, false, false] rfl rfl (by kernel_rfl) (fun _ _ _ h => h) (Or.inl ⟨by rfl, ?_⟩) ?_ ?_
    rotate_left
    · intro w'
      go_simp
      try with_reducible rfl
    rotate_left
    · simp only [Act.put, List.setIfInBounds_toArray, List.set_cons_zero, List.set_cons_succ, i64_w, i32_w]
      rfl
    refine pure_ (i := 20) (N := some 122) (v := ?_) (a' := ?_) #[true, true, true, true, true, true, true, true, true, true, true, true, true, true, true, true, true, true, true, true, true, false] rfl rfl (by kernel_rfl) (fun _ _ _ h => h) (Or.inl ⟨by rfl, ?_⟩) ?_ ?_
    rotate_left
    · intro w'
      go_simp
      try with_reducible rfl
    rotate_left
    · simp only [Act.put, List.setIfInBounds_toArray, List.set_cons_zero, List.set_cons_succ, i64_w, i32_w]
      rfl
    refine last_ (i := 21) (N := none) #[true, true, true, true, true, true, true, true, true, true, true, true, true, true, true, true, true, true, true, true, true, true] rfl rfl (by kernel_rfl) (by decide) (fun K hK => ?_)
    rw [if_pos (by rfl)]
    go_simp
    refine hK.out _ _ ?_
    clear hK K
    refine done_ (by kernel_rfl) ?_
    go_wp2_with fail
    go_ret
    exact ⟨rfl, below_setc (below_setc HB1.out hbg) hbg, fun s' hs => by cases hs⟩
theorem match_step (w0 w : World) (HB : Below w0.heap.size w0 w) (A : Option Addr) (c : Nat) (code : List SInst) (hC : kInst.C w0 A code.length code) (i : Nat) (hi : i < code.length) (hl : code.length ≤ 65536) (g : Nat) (s : Sp.MSt) (vo vd : Value) (h : MstAt w w0.heap.size g s vo vd) (hI : Sp.MInv code i s) : Calls Tryz.prog 80 #[.pointer (some ⟨g, 0, none⟩), .slice A code.length c, .int .i64 i] w (MstEnd w0 g (Sp.mstep code i s)) := by
  by_cases h1 : Sp.opens (rd_TInst code i).f0 = true
  · exact mstep_opens w0 w HB A c code hC i hi hl g s vo vd h hI h1
  · by_cases h5 : (rd_TInst code i).f0 = 5
    · by_cases hn : s.o.length = 0
      · exact mstep_else0 w0 w HB A c code hC i hi hl g s vo vd h hI h5 hn
      · exact mstep_else1 w0 w HB A c code hC i hi hl g s vo vd h hI h5 (by omega)
    · by_cases h11 : (rd_TInst code i).f0 = 11
      · by_cases hn : s.o.length = 0
        · exact mstep_end0 w0 w HB A c code hC i hi hl g s vo vd h hI h11 hn
        · exact mstep_end1 w0 w HB A c code hC i hi hl g s vo vd h hI h11 (by omega)
      · exact mstep_other w0 w HB A c code hC i hi hl g s vo vd h hI ⟨by simpa using h1, h5, h11⟩
end Go.Proofs.YthehihjcpiadgaaGreat
end
section
namespace Go.Proofs.YthehihjcpiadgaaGreat
open Go.RowKit Go.Proofs.YthehihjcpiadgaaGreatW.PrintWords Go.Proofs.YthehihjcpiadgaaGreatW.PrintLast Go.Proofs.YthehihjcpiadgaaGreatW.PrintMore
attribute [local go_sem] max2_int min2_int max_two min_two max_three min_three max_four min_four   -- for this text's walks alone
set_option linter.unusedVariables false
set_option linter.unusedSimpArgs false
def errW : Option Int → Value
  | none => .nilIface
  | some c => .iface 0 (.int .i64 c)
theorem errW_none : errW none = .nilIface := rfl
theorem errW_some (c : Int) : errW (some c) = .iface 0 (.int .i64 c) := rfl
theorem info5 : (Tryz.prog.info? 5).map (fun i => (i.zero, i.size, i.bytes)) = some (some (.int .u8 0), 1, 1) := by kernel_rfl
structure S231 where
  f0 : Int
  f1 : Int
  f2 : Int
  f3 : Int
def z231 : S231 := ⟨(0 : Int), (0 : Int), (0 : Int), (0 : Int)⟩
def k231 : Kd S231 := Kd.iso (Kd.pair (Kd.int .u8) (Kd.pair (Kd.int .u8) (Kd.pair (Kd.int .i64) (Kd.int .u32)))) (fun x : S231 => (x.f0, x.f1, x.f2, x.f3))
theorem k231_open {w : World} {x : S231} {cs : List Value} (h : k231.K w x cs) : cs = [.int .u8 x.f0, .int .u8 x.f1, .int .i64 x.f2, .int .u32 x.f3] := by
  obtain ⟨_, _, rfl, rfl, ⟨_, _, rfl, rfl, ⟨_, _, rfl, rfl, rfl⟩⟩⟩ := h
  exact rfl
theorem k231_mkM (w : World) (base : Nat) (ok : Nat → Prop) (x : S231)  : k231.M w base ok x [.int .u8 x.f0, .int .u8 x.f1, .int .i64 x.f2, .int .u32 x.f3] := ⟨[.int .u8 x.f0], [.int .u8 x.f1, .int .i64 x.f2, .int .u32 x.f3], rfl, rfl, ⟨[.int .u8 x.f1], [.int .i64 x.f2, .int .u32 x.f3], rfl, rfl, ⟨[.int .i64 x.f2], [.int .u32 x.f3], rfl, rfl, rfl⟩⟩⟩
def rd_T231 (xs : List S231) (i : Int) : S231 := xs.getD i.toNat z231
theorem at_T231 {w : World} {A : Option Addr} {n : Nat} {xs : List S231} (h : Kd.C k231 w A n xs) (i : Int) (h0 : 0 ≤ i) (h1 : i < n) : ∃ ad , A = some ad ∧ w.cell? (ad.add (i.toNat * 4)) = some (.int .u8 (rd_T231 xs i).f0) ∧ w.cell? ⟨(ad.add (i.toNat * 4)).block, (ad.add (i.toNat * 4)).off + 1, none⟩ = some (.int .u8 (rd_T231 xs i).f1) ∧ w.cell? ⟨(ad.add (i.toNat * 4)).block, (ad.add (i.toNat * 4)).off + 2, none⟩ = some (.int .i64 (rd_T231 xs i).f2) ∧ w.cell? ⟨(ad.add (i.toNat * 4)).block, (ad.add (i.toNat * 4)).off + 3, none⟩ = some (.int .u32 (rd_T231 xs i).f3) := by
  obtain ⟨ad, c, e, _, hK, hc0⟩ := Kd.C_get h z231 i h0 h1
  have hc : ∀ j u, c[j]? = some u → w.cell? (ad.add (i.toNat * 4 + j)) = some u := hc0
  obtain rfl := k231_open hK
  exact ⟨ad, e, hc 0 _ rfl, by rw [← add_field _ _ 1 (by omega)]; exact hc 1 _ rfl, by rw [← add_field _ _ 2 (by omega)]; exact hc 2 _ rfl, by rw [← add_field _ _ 3 (by omega)]; exact hc 3 _ rfl⟩
end Go.Proofs.YthehihjcpiadgaaGreat
end
