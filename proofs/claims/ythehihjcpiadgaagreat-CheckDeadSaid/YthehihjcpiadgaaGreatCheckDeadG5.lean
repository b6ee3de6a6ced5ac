/- Lemmas for the row of CheckDead, part 5: what its functions do. -/
import Derived.Test.YthehihjcpiadgaaGreatProg
import Derived.Below
import Derived.Deep.Draws
import Derived.Deep.AppendLies
import Derived.Maps.AppendAt
import Derived.OwnWalk
import Derived.Laws.BytesArg
import Derived.Laws.MakeOwn
import Derived.Laws.OwnMore
import Derived.Deep.OwnRows
import Derived.Tactics
import Derived.Lib.ConvBytes
import Derived.Laws.Slices
import Derived.WalkKit
import Derived.KernelRfl
import Derived.RowKit3
import Derived.Deep.LoopGhost
import Derived.Deep.QuietTactic
import Derived.BigQuiet
import Derived.WideLaws
import Derived.Deep.DeepCutAuto
import Derived.Deep.CutBlock
import Derived.Deep.RegionHeld3
import Derived.Laws.Rows
import Derived.Lib.AppendStr
import Derived.ArgAppend
import Derived.Laws.IdiomCopy
import Derived.OrdersHeld
import Derived.Laws.BitsLemmas
import Derived.RowKit
import Derived.Shelf.Abstract
import Derived.Test.YthehihjcpiadgaaGreatCheckDeadG4
section
namespace Go.Proofs.YthehihjcpiadgaaGreat
open Go.RowKit Go.Proofs.YthehihjcpiadgaaGreatW.PrintWords Go.Proofs.YthehihjcpiadgaaGreatW.PrintLast Go.Proofs.YthehihjcpiadgaaGreatW.PrintMore
attribute [local go_sem] max2_int min2_int max_two min_two max_three min_three max_four min_four   -- for this text's walks alone
set_option linter.unusedVariables false
set_option linter.unusedSimpArgs false
mutual
def check_plain.l0 : Nat → List (STy) → Int → Int → List (STy) → List (SImp) → List (SFun) → List (SMem) → List (SGlob) → List (SExp) → List (SData) → List (SCus) → Option (Bool)
  | 0, _, _, _, _, _, _, _, _, _, _, _ => none
  | k + 1, x10, x11, x12, x377000, x377001, x377002, x377003, x377004, x377005, x377006, x377007 => if x12 < x11 then (if 0 ≤ x12 then (if x12 < (x10.length : Int) then (if (((rd_TTy x10 x12).f1).length : Int) > 1 then (some false) else (check_plain.l0 k x10 x11 (wrap64 (x12 + 1)) x377000 x377001 x377002 x377003 x377004 x377005 x377006 x377007)) else (none)) else (none)) else (check_plain.l1 k x377006 (x377006.length : Int) 0 x377000 x377001 x377002 x377003 x377004 x377005 x377006 x377007)
def check_plain.l1 : Nat → List (SData) → Int → Int → List (STy) → List (SImp) → List (SFun) → List (SMem) → List (SGlob) → List (SExp) → List (SData) → List (SCus) → Option (Bool)
  | 0, _, _, _, _, _, _, _, _, _, _, _ => none
  | k + 1, x22, x23, x24, x377000, x377001, x377002, x377003, x377004, x377005, x377006, x377007 => if x24 < x23 then (if 0 ≤ x24 then (if x24 < (x22.length : Int) then (if ((rd_TData x22 x24).f0 = true) then (check_plain.l1 k x22 x23 (wrap64 (x24 + 1)) x377000 x377001 x377002 x377003 x377004 x377005 x377006 x377007) else (some false)) else (none)) else (none)) else (check_plain.l2 k x377005 (x377005.length : Int) 0 x377000 x377001 x377002 x377003 x377004 x377005 x377006 x377007)
def check_plain.l2 : Nat → List (SExp) → Int → Int → List (STy) → List (SImp) → List (SFun) → List (SMem) → List (SGlob) → List (SExp) → List (SData) → List (SCus) → Option (Bool)
  | 0, _, _, _, _, _, _, _, _, _, _, _ => none
  | k + 1, x33, x34, x35, x377000, x377001, x377002, x377003, x377004, x377005, x377006, x377007 => if x35 < x34 then (if 0 ≤ x35 then (if x35 < (x33.length : Int) then (if ((rd_TExp x33 x35).f1) = 3 then (if 0 ≤ ((rd_TExp x33 x35).f2) then (if ((rd_TExp x33 x35).f2) < (x377004.length : Int) then (if (rd_TGlob x377004 ((rd_TExp x33 x35).f2)).f1 = true then (some false) else (check_plain.l2 k x33 x34 (wrap64 (x35 + 1)) x377000 x377001 x377002 x377003 x377004 x377005 x377006 x377007)) else (none)) else (none)) else (check_plain.l2 k x33 x34 (wrap64 (x35 + 1)) x377000 x377001 x377002 x377003 x377004 x377005 x377006 x377007)) else (none)) else (none)) else (some (decide ((x377003.length : Int) ≤ 1)))
end
def check_plain.f (k : Nat) (l0_0 : List (STy)) (l0_1 : List (SImp)) (l0_2 : List (SFun)) (l0_3 : List (SMem)) (l0_4 : List (SGlob)) (l0_5 : List (SExp)) (l0_6 : List (SData)) (l0_7 : List (SCus)) : Option (Bool) := check_plain.l0 k l0_0 (l0_0.length : Int) 0 l0_0 l0_1 l0_2 l0_3 l0_4 l0_5 l0_6 l0_7
theorem check_plain.mono_l : ∀ k, (∀ y0 y1 y2 y3 y4 y5 y6 y7 y8 y9 y10, LeO (check_plain.l0 k y0 y1 y2 y3 y4 y5 y6 y7 y8 y9 y10) (check_plain.l0 (k + 1) y0 y1 y2 y3 y4 y5 y6 y7 y8 y9 y10)) ∧ (∀ y0 y1 y2 y3 y4 y5 y6 y7 y8 y9 y10, LeO (check_plain.l1 k y0 y1 y2 y3 y4 y5 y6 y7 y8 y9 y10) (check_plain.l1 (k + 1) y0 y1 y2 y3 y4 y5 y6 y7 y8 y9 y10)) ∧ (∀ y0 y1 y2 y3 y4 y5 y6 y7 y8 y9 y10, LeO (check_plain.l2 k y0 y1 y2 y3 y4 y5 y6 y7 y8 y9 y10) (check_plain.l2 (k + 1) y0 y1 y2 y3 y4 y5 y6 y7 y8 y9 y10))
  | 0 => ⟨fun _ _ _ _ _ _ _ _ _ _ _ r h => by simp [check_plain.l0] at h, fun _ _ _ _ _ _ _ _ _ _ _ r h => by simp [check_plain.l1] at h, fun _ _ _ _ _ _ _ _ _ _ _ r h => by simp [check_plain.l2] at h⟩
  | k + 1 => by
    obtain ⟨ih0, ih1, ih2⟩ := check_plain.mono_l k
    refine ⟨?_, ?_, ?_⟩
    · intro y0 y1 y2 y3 y4 y5 y6 y7 y8 y9 y10
      unfold check_plain.l0
      repeat' first
      | (with_reducible exact ih0 _ _ _ _ _ _ _ _ _ _ _)
      | (with_reducible exact ih1 _ _ _ _ _ _ _ _ _ _ _)
      | (with_reducible exact ih2 _ _ _ _ _ _ _ _ _ _ _)
      | (with_reducible exact LeO.refl _)
      | (with_reducible exact LeO.none _)
      | (with_reducible refine LeO.ite ?_ ?_)
      | (with_reducible refine LeO.bind ?_ (fun _ => ?_))
      | exact ih0 _ _ _ _ _ _ _ _ _ _ _
      | exact ih1 _ _ _ _ _ _ _ _ _ _ _
      | exact ih2 _ _ _ _ _ _ _ _ _ _ _
      | exact LeO.none _
      | refine LeO.ite ?_ ?_
      | refine LeO.bind ?_ (fun _ => ?_)
    · intro y0 y1 y2 y3 y4 y5 y6 y7 y8 y9 y10
      unfold check_plain.l1
      repeat' first
      | (with_reducible exact ih0 _ _ _ _ _ _ _ _ _ _ _)
      | (with_reducible exact ih1 _ _ _ _ _ _ _ _ _ _ _)
      | (with_reducible exact ih2 _ _ _ _ _ _ _ _ _ _ _)
      | (with_reducible exact LeO.refl _)
      | (with_reducible exact LeO.none _)
      | (with_reducible refine LeO.ite ?_ ?_)
      | (with_reducible refine LeO.bind ?_ (fun _ => ?_))
      | exact ih0 _ _ _ _ _ _ _ _ _ _ _
      | exact ih1 _ _ _ _ _ _ _ _ _ _ _
      | exact ih2 _ _ _ _ _ _ _ _ _ _ _
      | exact LeO.none _
      | refine LeO.ite ?_ ?_
      | refine LeO.bind ?_ (fun _ => ?_)
    · intro y0 y1 y2 y3 y4 y5 y6 y7 y8 y9 y10
      unfold check_plain.l2
      repeat' first
      | (with_reducible exact ih0 _ _ _ _ _ _ _ _ _ _ _)
      | (with_reducible exact ih1 _ _ _ _ _ _ _ _ _ _ _)
      | (with_reducible exact ih2 _ _ _ _ _ _ _ _ _ _ _)
      | (with_reducible exact LeO.refl _)
      | (with_reducible exact LeO.none _)
      | (with_reducible refine LeO.ite ?_ ?_)
      | (with_reducible refine LeO.bind ?_ (fun _ => ?_))
      | exact ih0 _ _ _ _ _ _ _ _ _ _ _
      | exact ih1 _ _ _ _ _ _ _ _ _ _ _
      | exact ih2 _ _ _ _ _ _ _ _ _ _ _
      | exact LeO.none _
      | refine LeO.ite ?_ ?_
      | refine LeO.bind ?_ (fun _ => ?_)
theorem check_plain.mono : ∀ a0 a1 a2 a3 a4 a5 a6 a7 k, LeO (check_plain.f k a0 a1 a2 a3 a4 a5 a6 a7) (check_plain.f (k + 1) a0 a1 a2 a3 a4 a5 a6 a7) := by
  intro a0 a1 a2 a3 a4 a5 a6 a7 k
  obtain ⟨ih0, ih1, ih2⟩ := check_plain.mono_l k
  unfold check_plain.f
  repeat' first
      | (with_reducible exact ih0 _ _ _ _ _ _ _ _ _ _ _)
      | (with_reducible exact ih1 _ _ _ _ _ _ _ _ _ _ _)
      | (with_reducible exact ih2 _ _ _ _ _ _ _ _ _ _ _)
      | (with_reducible exact LeO.refl _)
      | (with_reducible exact LeO.none _)
      | (with_reducible refine LeO.ite ?_ ?_)
      | (with_reducible refine LeO.bind ?_ (fun _ => ?_))
      | exact ih0 _ _ _ _ _ _ _ _ _ _ _
      | exact ih1 _ _ _ _ _ _ _ _ _ _ _
      | exact ih2 _ _ _ _ _ _ _ _ _ _ _
      | exact LeO.none _
      | refine LeO.ite ?_ ?_
      | refine LeO.bind ?_ (fun _ => ?_)
set_option maxHeartbeats 8000000 in
set_option maxRecDepth 100000 in
theorem check_plain.calls (k : Nat) (A0_0 : Option Addr) (c0_0 : Nat) (l0_0 : List (STy)) (A0_1 : Option Addr) (c0_1 : Nat) (l0_1 : List (SImp)) (A0_2 : Option Addr) (c0_2 : Nat) (l0_2 : List (SFun)) (A0_3 : Option Addr) (c0_3 : Nat) (l0_3 : List (SMem)) (A0_4 : Option Addr) (c0_4 : Nat) (l0_4 : List (SGlob)) (A0_5 : Option Addr) (c0_5 : Nat) (l0_5 : List (SExp)) (A0_6 : Option Addr) (c0_6 : Nat) (l0_6 : List (SData)) (A0_7 : Option Addr) (c0_7 : Nat) (l0_7 : List (SCus)) (r : Bool) (w : World) (hr0_0 : Kd.C kTy w A0_0 l0_0.length l0_0) (hc0_0 : l0_0.length ≤ c0_0) (hr0_1 : Kd.C kImp w A0_1 l0_1.length l0_1) (hc0_1 : l0_1.length ≤ c0_1) (hr0_2 : Kd.C kFun w A0_2 l0_2.length l0_2) (hc0_2 : l0_2.length ≤ c0_2) (hr0_3 : Kd.C kMem w A0_3 l0_3.length l0_3) (hc0_3 : l0_3.length ≤ c0_3) (hr0_4 : Kd.C kGlob w A0_4 l0_4.length l0_4) (hc0_4 : l0_4.length ≤ c0_4) (hr0_5 : Kd.C kExp w A0_5 l0_5.length l0_5) (hc0_5 : l0_5.length ≤ c0_5) (hr0_6 : Kd.C kData w A0_6 l0_6.length l0_6) (hc0_6 : l0_6.length ≤ c0_6) (hr0_7 : Kd.C kCus w A0_7 l0_7.length l0_7) (hc0_7 : l0_7.length ≤ c0_7) (h : check_plain.f k l0_0 l0_1 l0_2 l0_3 l0_4 l0_5 l0_6 l0_7 = some r) :
    Calls Tryz.prog 40 #[.agg #[.slice A0_0 l0_0.length c0_0, .slice A0_1 l0_1.length c0_1, .slice A0_2 l0_2.length c0_2, .slice A0_3 l0_3.length c0_3, .slice A0_4 l0_4.length c0_4, .slice A0_5 l0_5.length c0_5, .slice A0_6 l0_6.length c0_6, .slice A0_7 l0_7.length c0_7]] w fun e w' => e = .returned (.bool r) ∧ Below w.heap.size w w' := by
  have hu37 := Tryz.underlying37
  have hu40 := Tryz.underlying40
  have hu76 := Tryz.underlying76
  have hu86 := Tryz.underlying86
  have HR0_0 := Aside0.mk hr0_0
  have HC0_0 := Aside0.mk hc0_0
  clear hr0_0 hc0_0
  have HR0_1 := Aside0.mk hr0_1
  have HC0_1 := Aside0.mk hc0_1
  clear hr0_1 hc0_1
  have HR0_2 := Aside0.mk hr0_2
  have HC0_2 := Aside0.mk hc0_2
  clear hr0_2 hc0_2
  have HR0_3 := Aside0.mk hr0_3
  have HC0_3 := Aside0.mk hc0_3
  clear hr0_3 hc0_3
  have HR0_4 := Aside0.mk hr0_4
  have HC0_4 := Aside0.mk hc0_4
  clear hr0_4 hc0_4
  have HR0_5 := Aside0.mk hr0_5
  have HC0_5 := Aside0.mk hc0_5
  clear hr0_5 hc0_5
  have HR0_6 := Aside0.mk hr0_6
  have HC0_6 := Aside0.mk hc0_6
  clear hr0_6 hc0_6
  have HR0_7 := Aside0.mk hr0_7
  have HC0_7 := Aside0.mk hc0_7
  clear hr0_7 hc0_7
  have HB := Aside0.mk (Below.refl w.heap.size w)
  have H : (check_plain.l0 k l0_0 (l0_0.length : Int) 0 l0_0 l0_1 l0_2 l0_3 l0_4 l0_5 l0_6 l0_7) = some r := h
  clear h
  have H' := Aside0.mk H
  clear H
  go_enter Tryz.func40, Tryz.ntmps40
  go_wp2_with (first | ((with_reducible refine gate_dst (N := 1) rfl ?_); refine box_event ?hg (N := 1) ?hd (cs := #[.slice A0_0 l0_0.length c0_0, .slice A0_1 l0_1.length c0_1, .slice A0_2 l0_2.length c0_2, .slice A0_3 l0_3.length c0_3, .slice A0_4 l0_4.length c0_4, .slice A0_5 l0_5.length c0_5, .slice A0_6 l0_6.length c0_6, .slice A0_7 l0_7.length c0_7]) (t := 37) ?hr ?_; (case hd => rfl); (case hg => rfl); (case hr => first | (go_simp; done) | (go_simp; rfl)); intro gb376 hg w2 hbox hb; have n0_ := Aside0.mk (below_step (by repeat (first | (with_reducible first | exact HB.out | apply below_alloc | apply pw_below_drewN | apply below_drew1) | exact HB.out)) hb); have n1_ := Aside0.mk (hbox); have n2_ := Aside0.mk ((by rw [hg]; exact (below_size (by repeat (first | (with_reducible first | exact HB.out | apply below_alloc | apply pw_below_drewN | apply below_drew1) | exact HB.out))) : w.heap.size ≤ gb376)); have n3_ := Aside0.mk ((by rw [hg]; exact (below_size (by repeat (first | (with_reducible first | exact HB.out | apply below_alloc | apply pw_below_drewN | apply below_drew1) | exact HB.out))) : w.heap.size ≤ gb376)); clear HB; have HB := n0_; have BK376 := n1_; have GW376 := n2_; have GE376 := n3_; clear n0_ n1_ n2_ n3_; clear hb hbox hg; have hcz3_0 : w2.cell? ⟨gb376, 0, none⟩ = some (.slice A0_0 l0_0.length c0_0) := (blk_cell BK376.out 0).trans rfl; have hcz3_1 : w2.cell? ⟨gb376, 1, none⟩ = some (.slice A0_1 l0_1.length c0_1) := (blk_cell BK376.out 1).trans rfl; have hcz3_2 : w2.cell? ⟨gb376, 2, none⟩ = some (.slice A0_2 l0_2.length c0_2) := (blk_cell BK376.out 2).trans rfl; have hcz3_3 : w2.cell? ⟨gb376, 3, none⟩ = some (.slice A0_3 l0_3.length c0_3) := (blk_cell BK376.out 3).trans rfl; have hcz3_4 : w2.cell? ⟨gb376, 4, none⟩ = some (.slice A0_4 l0_4.length c0_4) := (blk_cell BK376.out 4).trans rfl; have hcz3_5 : w2.cell? ⟨gb376, 5, none⟩ = some (.slice A0_5 l0_5.length c0_5) := (blk_cell BK376.out 5).trans rfl; have hcz3_6 : w2.cell? ⟨gb376, 6, none⟩ = some (.slice A0_6 l0_6.length c0_6) := (blk_cell BK376.out 6).trans rfl; have hcz3_7 : w2.cell? ⟨gb376, 7, none⟩ = some (.slice A0_7 l0_7.length c0_7) := (blk_cell BK376.out 7).trans rfl; have hfz3_0 := blk_frozen BK376.out 0; have hfz3_1 := blk_frozen BK376.out 1; have hfz3_2 := blk_frozen BK376.out 2; have hfz3_3 := blk_frozen BK376.out 3; have hfz3_4 := blk_frozen BK376.out 4; have hfz3_5 := blk_frozen BK376.out 5; have hfz3_6 := blk_frozen BK376.out 6; have hfz3_7 := blk_frozen BK376.out 7))
  go_loopg [12] k (fun kq v12 w' => ∃ (x12_1 : Int), v12 = .int .i64 x12_1 ∧ Aside0 (check_plain.l0 kq l0_0 (l0_0.length : Int) x12_1 l0_0 l0_1 l0_2 l0_3 l0_4 l0_5 l0_6 l0_7 = some r) ∧ Aside0 (kq ≤ k) ∧ Aside0 (w'.heap[gb376]? = some (.cells #[(.slice A0_0 l0_0.length c0_0), (.slice A0_1 l0_1.length c0_1), (.slice A0_2 l0_2.length c0_2), (.slice A0_3 l0_3.length c0_3), (.slice A0_4 l0_4.length c0_4), (.slice A0_5 l0_5.length c0_5), (.slice A0_6 l0_6.length c0_6), (.slice A0_7 l0_7.length c0_7)] 37 (0, 0))) ∧ Aside0 (Below w.heap.size w w'))
  case atStart => exact ⟨(0), (by first | rfl | (simp; done) | (simp [*]; done)), H', ⟨Nat.le_refl _⟩, ⟨by (with_reducible repeat (first | refine blk_drewN ?_ _ | refine blk_drew ?_ | refine blk_alloc ?_ _)); exact BK376.out⟩, ⟨by repeat (first | (with_reducible first | exact HB.out | apply below_alloc | apply pw_below_drewN | apply below_drew1 | refine below_set ?_ GE376.out) | exact HB.out)⟩⟩
  case round =>
    clear H'
    try clear p2
    try clear hcz3_0
    try clear hcz3_1
    try clear hcz3_2
    try clear hcz3_3
    try clear hcz3_4
    try clear hcz3_5
    try clear hcz3_6
    try clear hcz3_7
    try clear hfz3_0
    try clear hfz3_1
    try clear hfz3_2
    try clear hfz3_3
    try clear hfz3_4
    try clear hfz3_5
    try clear hfz3_6
    try clear hfz3_7
    obtain ⟨x12_1, rfl, HA, HK1, BK376, HB⟩ := hrel
    cases gk with
    | zero => exact absurd HA.out (by simp [check_plain.l0])
    | succ k1 =>
      have H := HA.out
      clear HA
      simp only [check_plain.l0] at H
      by_cases c4 : x12_1 < (l0_0.length : Int)
      · rw [if_pos c4] at H
        have c4b0 : decide (x12_1 < (l0_0.length : Int)) = true := decide_eq_true c4
        clear c4
        by_cases c5 : 0 ≤ x12_1
        · rw [if_pos c5] at H
          have c5b0 : decide (0 ≤ x12_1) = true := decide_eq_true c5
          clear c5
          by_cases c6 : x12_1 < (l0_0.length : Int)
          · rw [if_pos c6] at H
            have c6b0 : decide (x12_1 < (l0_0.length : Int)) = true := decide_eq_true c6
            clear c6
            by_cases c7 : (((rd_TTy l0_0 x12_1).f1).length : Int) > 1
            · rw [if_pos c7] at H
              have c7b0 : decide (1 < (((rd_TTy l0_0 x12_1).f1).length : Int)) = true := decide_eq_true c7
              have c7b1 : decide (1 < ((rd_TTy l0_0 x12_1).f1).length) = true := decide_eq_true (by omega)
              clear c7
              obtain rfl := Option.some.inj H
              have p377 : 0 ≤ (x12_1 : Int) := of_decide_eq_true (by first | (with_reducible assumption) | assumption)
              have q377 : x12_1 < (l0_0.length : Int) := of_decide_eq_true (by first | (with_reducible assumption) | assumption)
              obtain ⟨ad377, A377_0, c377_0, A377_1, c377_1, e377, hx377_0, hx377_1, hl377_0, hi377_0, hl377_1, hi377_1⟩ := at_TTy HR0_0.out x12_1 p377 q377
              cases e377
              replace hx377_0 := (HB.out.cell (World.block_lt_of_cell? w _ hx377_0)).trans hx377_0
              replace hx377_1 := (HB.out.cell (World.block_lt_of_cell? w _ hx377_1)).trans hx377_1
              have HR377_0 := Aside0.mk hi377_0
              have HC377_0 := Aside0.mk hl377_0
              clear hi377_0 hl377_0
              have HR377_1 := Aside0.mk hi377_1
              have HC377_1 := Aside0.mk hl377_1
              clear hi377_1 hl377_1
              replace p377 := eq_true p377
              replace q377 := eq_true q377
              go_wp2_with (first | ((with_reducible refine gate_dst (N := 4) rfl ?_); refine box_event ?hg (N := 4) ?hd (cs := #[.slice none 0 0, .slice none 0 0]) (t := 40) ?hr ?_; (case hd => rfl); (case hg => rfl); (case hr => first | (go_simp; done) | (go_simp; rfl)); intro gb378 hg w8 hbox hb; have n0_ := Aside0.mk (blk_below (g := gb376) (o := .cells #[.slice (some ad377) l0_0.length c0_0, .slice A0_1 l0_1.length c0_1, .slice A0_2 l0_2.length c0_2, .slice A0_3 l0_3.length c0_3, .slice A0_4 l0_4.length c0_4, .slice A0_5 l0_5.length c0_5, .slice A0_6 l0_6.length c0_6, .slice A0_7 l0_7.length c0_7] 37 (0, 0)) (by (with_reducible repeat (first | refine blk_drewN ?_ _ | refine blk_drew ?_ | refine blk_alloc ?_ _)); exact BK376.out) hb); have n1_ := Aside0.mk (below_step (by repeat (first | (with_reducible first | exact HB.out | apply below_alloc | apply pw_below_drewN | apply below_drew1 | refine below_set ?_ GE376.out) | exact HB.out)) hb); have n2_ := Aside0.mk (hbox); have n3_ := Aside0.mk ((by rw [hg]; exact (below_size (by repeat (first | (with_reducible first | exact HB.out | apply below_alloc | apply pw_below_drewN | apply below_drew1 | refine below_set ?_ GE376.out) | exact HB.out))) : w.heap.size ≤ gb378)); have n4_ := Aside0.mk ((by rw [hg]; exact (below_size (by repeat (first | (with_reducible first | exact HB.out | apply below_alloc | apply pw_below_drewN | apply below_drew1 | refine below_set ?_ GE376.out) | exact HB.out))) : w.heap.size ≤ gb378)); have n5_ := Aside0.mk ((by rw [hg]; exact Nat.ne_of_lt (blk_lt (g := gb376) (o := .cells #[.slice (some ad377) l0_0.length c0_0, .slice A0_1 l0_1.length c0_1, .slice A0_2 l0_2.length c0_2, .slice A0_3 l0_3.length c0_3, .slice A0_4 l0_4.length c0_4, .slice A0_5 l0_5.length c0_5, .slice A0_6 l0_6.length c0_6, .slice A0_7 l0_7.length c0_7] 37 (0, 0)) (by (with_reducible repeat (first | refine blk_drewN ?_ _ | refine blk_drew ?_ | refine blk_alloc ?_ _)); exact BK376.out)) : gb376 ≠ gb378)); have n6_ := Aside0.mk ((by rw [hg]; exact Nat.ne_of_gt (blk_lt (g := gb376) (o := .cells #[.slice (some ad377) l0_0.length c0_0, .slice A0_1 l0_1.length c0_1, .slice A0_2 l0_2.length c0_2, .slice A0_3 l0_3.length c0_3, .slice A0_4 l0_4.length c0_4, .slice A0_5 l0_5.length c0_5, .slice A0_6 l0_6.length c0_6, .slice A0_7 l0_7.length c0_7] 37 (0, 0)) (by (with_reducible repeat (first | refine blk_drewN ?_ _ | refine blk_drew ?_ | refine blk_alloc ?_ _)); exact BK376.out)) : gb378 ≠ gb376)); clear BK376; clear HB; have BK376 := n0_; have HB := n1_; have BK378 := n2_; have GW378 := n3_; have GE378 := n4_; have NB376_378 := n5_; have NB378_376 := n6_; clear n0_ n1_ n2_ n3_ n4_ n5_ n6_; clear hb hbox hg; have hnb9 := NB378_376.out; have hnc9 := NB376_378.out; have hcz10_0 : w8.cell? ⟨gb378, 0, none⟩ = some (.slice none 0 0) := (blk_cell BK378.out 0).trans rfl; have hcz10_1 : w8.cell? ⟨gb378, 1, none⟩ = some (.slice none 0 0) := (blk_cell BK378.out 1).trans rfl; have hfz10_0 := blk_frozen BK378.out 0; have hfz10_1 := blk_frozen BK378.out 1))
              go_ret
              exact ⟨by first | rfl | (simp [errW_none, errW_some] <;> rfl) | (simp [*, errW_none, errW_some] <;> rfl), by repeat (first | (with_reducible first | exact HB.out | apply below_alloc | apply pw_below_drewN | apply below_drew1 | refine below_set ?_ GE376.out | refine below_set ?_ GE378.out) | exact HB.out)⟩
            · rw [if_neg c7] at H
              have c7b0 : decide (1 < (((rd_TTy l0_0 x12_1).f1).length : Int)) = false := decide_eq_false c7
              have c7b1 : decide (1 < ((rd_TTy l0_0 x12_1).f1).length) = false := decide_eq_false (by omega)
              clear c7
              have H' := Aside0.mk H
              clear H
              have p377 : 0 ≤ (x12_1 : Int) := of_decide_eq_true (by first | (with_reducible assumption) | assumption)
              have q377 : x12_1 < (l0_0.length : Int) := of_decide_eq_true (by first | (with_reducible assumption) | assumption)
              obtain ⟨ad377, A377_0, c377_0, A377_1, c377_1, e377, hx377_0, hx377_1, hl377_0, hi377_0, hl377_1, hi377_1⟩ := at_TTy HR0_0.out x12_1 p377 q377
              cases e377
              replace hx377_0 := (HB.out.cell (World.block_lt_of_cell? w _ hx377_0)).trans hx377_0
              replace hx377_1 := (HB.out.cell (World.block_lt_of_cell? w _ hx377_1)).trans hx377_1
              have HR377_0 := Aside0.mk hi377_0
              have HC377_0 := Aside0.mk hl377_0
              clear hi377_0 hl377_0
              have HR377_1 := Aside0.mk hi377_1
              have HC377_1 := Aside0.mk hl377_1
              clear hi377_1 hl377_1
              replace p377 := eq_true p377
              replace q377 := eq_true q377
              go_wp2_with (first | ((with_reducible refine gate_dst (N := 4) rfl ?_); refine box_event ?hg (N := 4) ?hd (cs := #[.slice none 0 0, .slice none 0 0]) (t := 40) ?hr ?_; (case hd => rfl); (case hg => rfl); (case hr => first | (go_simp; done) | (go_simp; rfl)); intro gb378 hg w11 hbox hb; have n0_ := Aside0.mk (blk_below (g := gb376) (o := .cells #[.slice (some ad377) l0_0.length c0_0, .slice A0_1 l0_1.length c0_1, .slice A0_2 l0_2.length c0_2, .slice A0_3 l0_3.length c0_3, .slice A0_4 l0_4.length c0_4, .slice A0_5 l0_5.length c0_5, .slice A0_6 l0_6.length c0_6, .slice A0_7 l0_7.length c0_7] 37 (0, 0)) (by (with_reducible repeat (first | refine blk_drewN ?_ _ | refine blk_drew ?_ | refine blk_alloc ?_ _)); exact BK376.out) hb); have n1_ := Aside0.mk (below_step (by repeat (first | (with_reducible first | exact HB.out | apply below_alloc | apply pw_below_drewN | apply below_drew1 | refine below_set ?_ GE376.out) | exact HB.out)) hb); have n2_ := Aside0.mk (hbox); have n3_ := Aside0.mk ((by rw [hg]; exact (below_size (by repeat (first | (with_reducible first | exact HB.out | apply below_alloc | apply pw_below_drewN | apply below_drew1 | refine below_set ?_ GE376.out) | exact HB.out))) : w.heap.size ≤ gb378)); have n4_ := Aside0.mk ((by rw [hg]; exact (below_size (by repeat (first | (with_reducible first | exact HB.out | apply below_alloc | apply pw_below_drewN | apply below_drew1 | refine below_set ?_ GE376.out) | exact HB.out))) : w.heap.size ≤ gb378)); have n5_ := Aside0.mk ((by rw [hg]; exact Nat.ne_of_lt (blk_lt (g := gb376) (o := .cells #[.slice (some ad377) l0_0.length c0_0, .slice A0_1 l0_1.length c0_1, .slice A0_2 l0_2.length c0_2, .slice A0_3 l0_3.length c0_3, .slice A0_4 l0_4.length c0_4, .slice A0_5 l0_5.length c0_5, .slice A0_6 l0_6.length c0_6, .slice A0_7 l0_7.length c0_7] 37 (0, 0)) (by (with_reducible repeat (first | refine blk_drewN ?_ _ | refine blk_drew ?_ | refine blk_alloc ?_ _)); exact BK376.out)) : gb376 ≠ gb378)); have n6_ := Aside0.mk ((by rw [hg]; exact Nat.ne_of_gt (blk_lt (g := gb376) (o := .cells #[.slice (some ad377) l0_0.length c0_0, .slice A0_1 l0_1.length c0_1, .slice A0_2 l0_2.length c0_2, .slice A0_3 l0_3.length c0_3, .slice A0_4 l0_4.length c0_4, .slice A0_5 l0_5.length c0_5, .slice A0_6 l0_6.length c0_6, .slice A0_7 l0_7.length c0_7] 37 (0, 0)) (by (with_reducible repeat (first | refine blk_drewN ?_ _ | refine blk_drew ?_ | refine blk_alloc ?_ _)); exact BK376.out)) : gb378 ≠ gb376)); clear BK376; clear HB; have BK376 := n0_; have HB := n1_; have BK378 := n2_; have GW378 := n3_; have GE378 := n4_; have NB376_378 := n5_; have NB378_376 := n6_; clear n0_ n1_ n2_ n3_ n4_ n5_ n6_; clear hb hbox hg; have hnb12 := NB378_376.out; have hnc12 := NB376_378.out; have hcz13_0 : w11.cell? ⟨gb378, 0, none⟩ = some (.slice none 0 0) := (blk_cell BK378.out 0).trans rfl; have hcz13_1 : w11.cell? ⟨gb378, 1, none⟩ = some (.slice none 0 0) := (blk_cell BK378.out 1).trans rfl; have hfz13_0 := blk_frozen BK378.out 0; have hfz13_1 := blk_frozen BK378.out 1))
              go_roundg k1
              case measure => have := HK1.out; omega
              case rel => exact ⟨(wrap64 (x12_1 + 1)), (by first | rfl | (simp; done) | (simp [*]; done)), H', ⟨by have := HK1.out; omega⟩, ⟨by (with_reducible repeat (first | refine blk_drewN ?_ _ | refine blk_drew ?_ | refine blk_alloc ?_ _)); refine blk_far ?_ NB376_378.out _; (with_reducible repeat (first | refine blk_drewN ?_ _ | refine blk_drew ?_ | refine blk_alloc ?_ _)); refine blk_far ?_ NB376_378.out _; (with_reducible repeat (first | refine blk_drewN ?_ _ | refine blk_drew ?_ | refine blk_alloc ?_ _)); exact BK376.out⟩, ⟨by repeat (first | (with_reducible first | exact HB.out | apply below_alloc | apply pw_below_drewN | apply below_drew1 | refine below_set ?_ GE376.out | refine below_set ?_ GE378.out) | exact HB.out)⟩⟩
          · rw [if_neg c6] at H
            exact absurd H (by simp)
        · rw [if_neg c5] at H
          exact absurd H (by simp)
      · rw [if_neg c4] at H
        have c4b0 : decide (x12_1 < (l0_0.length : Int)) = false := decide_eq_false c4
        clear c4
        have H' := Aside0.mk H
        clear H
        have hcz14_0 : wr.cell? ⟨gb376, 0, none⟩ = some (.slice A0_0 l0_0.length c0_0) := (blk_cell BK376.out 0).trans rfl
        have hcz14_1 : wr.cell? ⟨gb376, 1, none⟩ = some (.slice A0_1 l0_1.length c0_1) := (blk_cell BK376.out 1).trans rfl
        have hcz14_2 : wr.cell? ⟨gb376, 2, none⟩ = some (.slice A0_2 l0_2.length c0_2) := (blk_cell BK376.out 2).trans rfl
        have hcz14_3 : wr.cell? ⟨gb376, 3, none⟩ = some (.slice A0_3 l0_3.length c0_3) := (blk_cell BK376.out 3).trans rfl
        have hcz14_4 : wr.cell? ⟨gb376, 4, none⟩ = some (.slice A0_4 l0_4.length c0_4) := (blk_cell BK376.out 4).trans rfl
        have hcz14_5 : wr.cell? ⟨gb376, 5, none⟩ = some (.slice A0_5 l0_5.length c0_5) := (blk_cell BK376.out 5).trans rfl
        have hcz14_6 : wr.cell? ⟨gb376, 6, none⟩ = some (.slice A0_6 l0_6.length c0_6) := (blk_cell BK376.out 6).trans rfl
        have hcz14_7 : wr.cell? ⟨gb376, 7, none⟩ = some (.slice A0_7 l0_7.length c0_7) := (blk_cell BK376.out 7).trans rfl
        have hfz14_0 := blk_frozen BK376.out 0
        have hfz14_1 := blk_frozen BK376.out 1
        have hfz14_2 := blk_frozen BK376.out 2
        have hfz14_3 := blk_frozen BK376.out 3
        have hfz14_4 := blk_frozen BK376.out 4
        have hfz14_5 := blk_frozen BK376.out 5
        have hfz14_6 := blk_frozen BK376.out 6
        have hfz14_7 := blk_frozen BK376.out 7
        go_wp2
        go_loopg [24] k1 (fun kq v24 w' => ∃ (x24_2 : Int), v24 = .int .i64 x24_2 ∧ Aside0 (check_plain.l1 kq l0_6 (l0_6.length : Int) x24_2 l0_0 l0_1 l0_2 l0_3 l0_4 l0_5 l0_6 l0_7 = some r) ∧ Aside0 (kq ≤ k1) ∧ Aside0 (w'.heap[gb376]? = some (.cells #[(.slice A0_0 l0_0.length c0_0), (.slice A0_1 l0_1.length c0_1), (.slice A0_2 l0_2.length c0_2), (.slice A0_3 l0_3.length c0_3), (.slice A0_4 l0_4.length c0_4), (.slice A0_5 l0_5.length c0_5), (.slice A0_6 l0_6.length c0_6), (.slice A0_7 l0_7.length c0_7)] 37 (0, 0))) ∧ Aside0 (Below w.heap.size w w'))
        case atStart => exact ⟨(0), (by first | rfl | (simp; done) | (simp [*]; done)), H', ⟨Nat.le_refl _⟩, ⟨by (with_reducible repeat (first | refine blk_drewN ?_ _ | refine blk_drew ?_ | refine blk_alloc ?_ _)); exact BK376.out⟩, ⟨by repeat (first | (with_reducible first | exact HB.out | apply below_alloc | apply pw_below_drewN | apply below_drew1 | refine below_set ?_ GE376.out) | exact HB.out)⟩⟩
        case round =>
          clear H'
          try clear c1
          try clear p2
          try clear c3
          try clear p3
          try clear q3
          try clear hx3
          try clear c4
          try clear c4b0
          try clear c5
          try clear c5b0
          try clear c6
          try clear c6b0
          try clear p6
          try clear c7
          try clear c7b0
          try clear c7b1
          try clear c9
          try clear c12
          try clear hcz10_0
          try clear hcz10_1
          try clear hcz13_0
          try clear hcz13_1
          try clear hcz14_0
          try clear hcz14_1
          try clear hcz14_2
          try clear hcz14_3
          try clear hcz14_4
          try clear hcz14_5
          try clear hcz14_6
          try clear hcz14_7
          try clear hcz3_0
          try clear hcz3_1
          try clear hcz3_2
          try clear hcz3_3
          try clear hcz3_4
          try clear hcz3_5
          try clear hcz3_6
          try clear hcz3_7
          try clear hfz10_0
          try clear hfz10_1
          try clear hfz13_0
          try clear hfz13_1
          try clear hfz14_0
          try clear hfz14_1
          try clear hfz14_2
          try clear hfz14_3
          try clear hfz14_4
          try clear hfz14_5
          try clear hfz14_6
          try clear hfz14_7
          try clear hfz3_0
          try clear hfz3_1
          try clear hfz3_2
          try clear hfz3_3
          try clear hfz3_4
          try clear hfz3_5
          try clear hfz3_6
          try clear hfz3_7
          try clear hx377_0
          try clear hx377_1
          try clear p2
          try clear p377
          try clear q377
          obtain ⟨x24_2, rfl, HA, HK2, BK376, HB⟩ := hrel
          cases gk with
          | zero => exact absurd HA.out (by simp [check_plain.l1])
          | succ k2 =>
            have H := HA.out
            clear HA
            simp only [check_plain.l1] at H
            by_cases c15 : x24_2 < (l0_6.length : Int)
            · rw [if_pos c15] at H
              have c15b0 : decide (x24_2 < (l0_6.length : Int)) = true := decide_eq_true c15
              clear c15
              by_cases c16 : 0 ≤ x24_2
              · rw [if_pos c16] at H
                have c16b0 : decide (0 ≤ x24_2) = true := decide_eq_true c16
                clear c16
                by_cases c17 : x24_2 < (l0_6.length : Int)
                · rw [if_pos c17] at H
                  have c17b0 : decide (x24_2 < (l0_6.length : Int)) = true := decide_eq_true c17
                  clear c17
                  obtain ⟨bq18, hbq18⟩ : ∃ b_ : Bool, b_ = ((rd_TData l0_6 x24_2).f0) := ⟨_, rfl⟩
                  replace H : (if (bq18 = true) then (check_plain.l1 k2 l0_6 (l0_6.length : Int) (wrap64 (x24_2 + 1)) l0_0 l0_1 l0_2 l0_3 l0_4 l0_5 l0_6 l0_7) else (some false)) = some r := by rw [← hbq18] at H; exact H
                  have Nbq18 := Aside0.mk hbq18
                  clear hbq18
                  by_cases c19 : (bq18 = true)
                  · subst c19
                    have H1 : (check_plain.l1 k2 l0_6 (l0_6.length : Int) (wrap64 (x24_2 + 1)) l0_0 l0_1 l0_2 l0_3 l0_4 l0_5 l0_6 l0_7) = some r := by rw [if_pos rfl] at H; exact H
                    clear H
                    have H := H1
                    clear H1
                    have H' := Aside0.mk H
                    clear H
                    have p379 : 0 ≤ (x24_2 : Int) := of_decide_eq_true (by first | (with_reducible assumption) | assumption)
                    have q379 : x24_2 < (l0_6.length : Int) := of_decide_eq_true (by first | (with_reducible assumption) | assumption)
                    obtain ⟨ad379, A379_3, c379_3, e379, hx379_0, hx379_1, hx379_2, hx379_3, hl379_3, hi379_3⟩ := at_TData HR0_6.out x24_2 p379 q379
                    (try rw [← Nbq18.out] at hx379_0)
                    cases e379
                    replace hx379_0 := (HB.out.cell (World.block_lt_of_cell? w _ hx379_0)).trans hx379_0
                    replace hx379_1 := (HB.out.cell (World.block_lt_of_cell? w _ hx379_1)).trans hx379_1
                    replace hx379_2 := (HB.out.cell (World.block_lt_of_cell? w _ hx379_2)).trans hx379_2
                    replace hx379_3 := (HB.out.cell (World.block_lt_of_cell? w _ hx379_3)).trans hx379_3
                    have HR379_3 := Aside0.mk hi379_3
                    have HC379_3 := Aside0.mk hl379_3
                    clear hi379_3 hl379_3
                    replace p379 := eq_true p379
                    replace q379 := eq_true q379
                    go_wp2_with (first | ((with_reducible refine gate_dst (N := 6) rfl ?_); refine box_event ?hg (N := 6) ?hd (cs := #[.bool false, .int .i64 0, .int .i64 0, .slice none 0 0]) (t := 76) ?hr ?_; (case hd => rfl); (case hg => rfl); (case hr => first | (go_simp; done) | (go_simp; rfl)); intro gb380 hg w20 hbox hb; have n0_ := Aside0.mk (blk_below (g := gb376) (o := .cells #[.slice A0_0 l0_0.length c0_0, .slice A0_1 l0_1.length c0_1, .slice A0_2 l0_2.length c0_2, .slice A0_3 l0_3.length c0_3, .slice A0_4 l0_4.length c0_4, .slice A0_5 l0_5.length c0_5, .slice (some ad379) l0_6.length c0_6, .slice A0_7 l0_7.length c0_7] 37 (0, 0)) (by (with_reducible repeat (first | refine blk_drewN ?_ _ | refine blk_drew ?_ | refine blk_alloc ?_ _)); exact BK376.out) hb); have n1_ := Aside0.mk (below_step (by repeat (first | (with_reducible first | exact HB.out | apply below_alloc | apply pw_below_drewN | apply below_drew1 | refine below_set ?_ GE376.out) | exact HB.out)) hb); have n2_ := Aside0.mk (hbox); have n3_ := Aside0.mk ((by rw [hg]; exact (below_size (by repeat (first | (with_reducible first | exact HB.out | apply below_alloc | apply pw_below_drewN | apply below_drew1 | refine below_set ?_ GE376.out) | exact HB.out))) : w.heap.size ≤ gb380)); have n4_ := Aside0.mk ((by rw [hg]; exact (below_size (by repeat (first | (with_reducible first | exact HB.out | apply below_alloc | apply pw_below_drewN | apply below_drew1 | refine below_set ?_ GE376.out) | exact HB.out))) : w.heap.size ≤ gb380)); have n5_ := Aside0.mk ((by rw [hg]; exact Nat.ne_of_lt (blk_lt (g := gb376) (o := .cells #[.slice A0_0 l0_0.length c0_0, .slice A0_1 l0_1.length c0_1, .slice A0_2 l0_2.length c0_2, .slice A0_3 l0_3.length c0_3, .slice A0_4 l0_4.length c0_4, .slice A0_5 l0_5.length c0_5, .slice (some ad379) l0_6.length c0_6, .slice A0_7 l0_7.length c0_7] 37 (0, 0)) (by (with_reducible repeat (first | refine blk_drewN ?_ _ | refine blk_drew ?_ | refine blk_alloc ?_ _)); exact BK376.out)) : gb376 ≠ gb380)); have n6_ := Aside0.mk ((by rw [hg]; exact Nat.ne_of_gt (blk_lt (g := gb376) (o := .cells #[.slice A0_0 l0_0.length c0_0, .slice A0_1 l0_1.length c0_1, .slice A0_2 l0_2.length c0_2, .slice A0_3 l0_3.length c0_3, .slice A0_4 l0_4.length c0_4, .slice A0_5 l0_5.length c0_5, .slice (some ad379) l0_6.length c0_6, .slice A0_7 l0_7.length c0_7] 37 (0, 0)) (by (with_reducible repeat (first | refine blk_drewN ?_ _ | refine blk_drew ?_ | refine blk_alloc ?_ _)); exact BK376.out)) : gb380 ≠ gb376)); clear BK376; clear HB; have BK376 := n0_; have HB := n1_; have BK380 := n2_; have GW380 := n3_; have GE380 := n4_; have NB376_380 := n5_; have NB380_376 := n6_; clear n0_ n1_ n2_ n3_ n4_ n5_ n6_; clear hb hbox hg; have hnb21 := NB380_376.out; have hnc21 := NB376_380.out; have hcz22_0 : w20.cell? ⟨gb380, 0, none⟩ = some (.bool false) := (blk_cell BK380.out 0).trans rfl; have hcz22_1 : w20.cell? ⟨gb380, 1, none⟩ = some (.int .i64 0) := (blk_cell BK380.out 1).trans rfl; have hcz22_2 : w20.cell? ⟨gb380, 2, none⟩ = some (.int .i64 0) := (blk_cell BK380.out 2).trans rfl; have hcz22_3 : w20.cell? ⟨gb380, 3, none⟩ = some (.slice none 0 0) := (blk_cell BK380.out 3).trans rfl; have hfz22_0 := blk_frozen BK380.out 0; have hfz22_1 := blk_frozen BK380.out 1; have hfz22_2 := blk_frozen BK380.out 2; have hfz22_3 := blk_frozen BK380.out 3))
                    go_roundg k2
                    case measure => have := HK1.out; have := HK2.out; omega
                    case rel => exact ⟨(wrap64 (x24_2 + 1)), (by first | rfl | (simp; done) | (simp [*]; done)), H', ⟨by have := HK1.out; have := HK2.out; omega⟩, ⟨by (with_reducible repeat (first | refine blk_drewN ?_ _ | refine blk_drew ?_ | refine blk_alloc ?_ _)); refine blk_far ?_ NB376_380.out _; (with_reducible repeat (first | refine blk_drewN ?_ _ | refine blk_drew ?_ | refine blk_alloc ?_ _)); refine blk_far ?_ NB376_380.out _; (with_reducible repeat (first | refine blk_drewN ?_ _ | refine blk_drew ?_ | refine blk_alloc ?_ _)); refine blk_far ?_ NB376_380.out _; (with_reducible repeat (first | refine blk_drewN ?_ _ | refine blk_drew ?_ | refine blk_alloc ?_ _)); refine blk_far ?_ NB376_380.out _; (with_reducible repeat (first | refine blk_drewN ?_ _ | refine blk_drew ?_ | refine blk_alloc ?_ _)); exact BK376.out⟩, ⟨by repeat (first | (with_reducible first | exact HB.out | apply below_alloc | apply pw_below_drewN | apply below_drew1 | refine below_set ?_ GE376.out | refine below_set ?_ GE380.out) | exact HB.out)⟩⟩
                  · replace c19 := Bool.eq_false_iff.mpr c19
                    subst c19
                    have H1 : (some false) = some r := by rw [if_neg (show ¬ (false = true) by decide)] at H; exact H
                    clear H
                    have H := H1
                    clear H1
                    obtain rfl := Option.some.inj H
                    have p379 : 0 ≤ (x24_2 : Int) := of_decide_eq_true (by first | (with_reducible assumption) | assumption)
                    have q379 : x24_2 < (l0_6.length : Int) := of_decide_eq_true (by first | (with_reducible assumption) | assumption)
                    obtain ⟨ad379, A379_3, c379_3, e379, hx379_0, hx379_1, hx379_2, hx379_3, hl379_3, hi379_3⟩ := at_TData HR0_6.out x24_2 p379 q379
                    (try rw [← Nbq18.out] at hx379_0)
                    cases e379
                    replace hx379_0 := (HB.out.cell (World.block_lt_of_cell? w _ hx379_0)).trans hx379_0
                    replace hx379_1 := (HB.out.cell (World.block_lt_of_cell? w _ hx379_1)).trans hx379_1
                    replace hx379_2 := (HB.out.cell (World.block_lt_of_cell? w _ hx379_2)).trans hx379_2
                    replace hx379_3 := (HB.out.cell (World.block_lt_of_cell? w _ hx379_3)).trans hx379_3
                    have HR379_3 := Aside0.mk hi379_3
                    have HC379_3 := Aside0.mk hl379_3
                    clear hi379_3 hl379_3
                    replace p379 := eq_true p379
                    replace q379 := eq_true q379
                    go_wp2_with (first | ((with_reducible refine gate_dst (N := 6) rfl ?_); refine box_event ?hg (N := 6) ?hd (cs := #[.bool false, .int .i64 0, .int .i64 0, .slice none 0 0]) (t := 76) ?hr ?_; (case hd => rfl); (case hg => rfl); (case hr => first | (go_simp; done) | (go_simp; rfl)); intro gb380 hg w23 hbox hb; have n0_ := Aside0.mk (blk_below (g := gb376) (o := .cells #[.slice A0_0 l0_0.length c0_0, .slice A0_1 l0_1.length c0_1, .slice A0_2 l0_2.length c0_2, .slice A0_3 l0_3.length c0_3, .slice A0_4 l0_4.length c0_4, .slice A0_5 l0_5.length c0_5, .slice (some ad379) l0_6.length c0_6, .slice A0_7 l0_7.length c0_7] 37 (0, 0)) (by (with_reducible repeat (first | refine blk_drewN ?_ _ | refine blk_drew ?_ | refine blk_alloc ?_ _)); exact BK376.out) hb); have n1_ := Aside0.mk (below_step (by repeat (first | (with_reducible first | exact HB.out | apply below_alloc | apply pw_below_drewN | apply below_drew1 | refine below_set ?_ GE376.out) | exact HB.out)) hb); have n2_ := Aside0.mk (hbox); have n3_ := Aside0.mk ((by rw [hg]; exact (below_size (by repeat (first | (with_reducible first | exact HB.out | apply below_alloc | apply pw_below_drewN | apply below_drew1 | refine below_set ?_ GE376.out) | exact HB.out))) : w.heap.size ≤ gb380)); have n4_ := Aside0.mk ((by rw [hg]; exact (below_size (by repeat (first | (with_reducible first | exact HB.out | apply below_alloc | apply pw_below_drewN | apply below_drew1 | refine below_set ?_ GE376.out) | exact HB.out))) : w.heap.size ≤ gb380)); have n5_ := Aside0.mk ((by rw [hg]; exact Nat.ne_of_lt (blk_lt (g := gb376) (o := .cells #[.slice A0_0 l0_0.length c0_0, .slice A0_1 l0_1.length c0_1, .slice A0_2 l0_2.length c0_2, .slice A0_3 l0_3.length c0_3, .slice A0_4 l0_4.length c0_4, .slice A0_5 l0_5.length c0_5, .slice (some ad379) l0_6.length c0_6, .slice A0_7 l0_7.length c0_7] 37 (0, 0)) (by (with_reducible repeat (first | refine blk_drewN ?_ _ | refine blk_drew ?_ | refine blk_alloc ?_ _)); exact BK376.out)) : gb376 ≠ gb380)); have n6_ := Aside0.mk ((by rw [hg]; exact Nat.ne_of_gt (blk_lt (g := gb376) (o := .cells #[.slice A0_0 l0_0.length c0_0, .slice A0_1 l0_1.length c0_1, .slice A0_2 l0_2.length c0_2, .slice A0_3 l0_3.length c0_3, .slice A0_4 l0_4.length c0_4, .slice A0_5 l0_5.length c0_5, .slice (some ad379) l0_6.length c0_6, .slice A0_7 l0_7.length c0_7] 37 (0, 0)) (by (with_reducible repeat (first | refine blk_drewN ?_ _ | refine blk_drew ?_ | refine blk_alloc ?_ _)); exact BK376.out)) : gb380 ≠ gb376)); clear BK376; clear HB; have BK376 := n0_; have HB := n1_; have BK380 := n2_; have GW380 := n3_; have GE380 := n4_; have NB376_380 := n5_; have NB380_376 := n6_; clear n0_ n1_ n2_ n3_ n4_ n5_ n6_; clear hb hbox hg; have hnb24 := NB380_376.out; have hnc24 := NB376_380.out; have hcz25_0 : w23.cell? ⟨gb380, 0, none⟩ = some (.bool false) := (blk_cell BK380.out 0).trans rfl; have hcz25_1 : w23.cell? ⟨gb380, 1, none⟩ = some (.int .i64 0) := (blk_cell BK380.out 1).trans rfl; have hcz25_2 : w23.cell? ⟨gb380, 2, none⟩ = some (.int .i64 0) := (blk_cell BK380.out 2).trans rfl; have hcz25_3 : w23.cell? ⟨gb380, 3, none⟩ = some (.slice none 0 0) := (blk_cell BK380.out 3).trans rfl; have hfz25_0 := blk_frozen BK380.out 0; have hfz25_1 := blk_frozen BK380.out 1; have hfz25_2 := blk_frozen BK380.out 2; have hfz25_3 := blk_frozen BK380.out 3))
                    go_ret
                    exact ⟨by first | rfl | (simp [errW_none, errW_some] <;> rfl) | (simp [*, errW_none, errW_some] <;> rfl), by repeat (first | (with_reducible first | exact HB.out | apply below_alloc | apply pw_below_drewN | apply below_drew1 | refine below_set ?_ GE376.out | refine below_set ?_ GE380.out) | exact HB.out)⟩
                · rw [if_neg c17] at H
                  exact absurd H (by simp)
              · rw [if_neg c16] at H
                exact absurd H (by simp)
            · rw [if_neg c15] at H
              have c15b0 : decide (x24_2 < (l0_6.length : Int)) = false := decide_eq_false c15
              clear c15
              have H' := Aside0.mk H
              clear H
              have hcz26_0 : wr.cell? ⟨gb376, 0, none⟩ = some (.slice A0_0 l0_0.length c0_0) := (blk_cell BK376.out 0).trans rfl
              have hcz26_1 : wr.cell? ⟨gb376, 1, none⟩ = some (.slice A0_1 l0_1.length c0_1) := (blk_cell BK376.out 1).trans rfl
              have hcz26_2 : wr.cell? ⟨gb376, 2, none⟩ = some (.slice A0_2 l0_2.length c0_2) := (blk_cell BK376.out 2).trans rfl
              have hcz26_3 : wr.cell? ⟨gb376, 3, none⟩ = some (.slice A0_3 l0_3.length c0_3) := (blk_cell BK376.out 3).trans rfl
              have hcz26_4 : wr.cell? ⟨gb376, 4, none⟩ = some (.slice A0_4 l0_4.length c0_4) := (blk_cell BK376.out 4).trans rfl
              have hcz26_5 : wr.cell? ⟨gb376, 5, none⟩ = some (.slice A0_5 l0_5.length c0_5) := (blk_cell BK376.out 5).trans rfl
              have hcz26_6 : wr.cell? ⟨gb376, 6, none⟩ = some (.slice A0_6 l0_6.length c0_6) := (blk_cell BK376.out 6).trans rfl
              have hcz26_7 : wr.cell? ⟨gb376, 7, none⟩ = some (.slice A0_7 l0_7.length c0_7) := (blk_cell BK376.out 7).trans rfl
              have hfz26_0 := blk_frozen BK376.out 0
              have hfz26_1 := blk_frozen BK376.out 1
              have hfz26_2 := blk_frozen BK376.out 2
              have hfz26_3 := blk_frozen BK376.out 3
              have hfz26_4 := blk_frozen BK376.out 4
              have hfz26_5 := blk_frozen BK376.out 5
              have hfz26_6 := blk_frozen BK376.out 6
              have hfz26_7 := blk_frozen BK376.out 7
              go_wp2
              go_loopg [35] k2 (fun kq v35 w' => ∃ (x35_3 : Int), v35 = .int .i64 x35_3 ∧ Aside0 (check_plain.l2 kq l0_5 (l0_5.length : Int) x35_3 l0_0 l0_1 l0_2 l0_3 l0_4 l0_5 l0_6 l0_7 = some r) ∧ Aside0 (kq ≤ k2) ∧ Aside0 (w'.heap[gb376]? = some (.cells #[(.slice A0_0 l0_0.length c0_0), (.slice A0_1 l0_1.length c0_1), (.slice A0_2 l0_2.length c0_2), (.slice A0_3 l0_3.length c0_3), (.slice A0_4 l0_4.length c0_4), (.slice A0_5 l0_5.length c0_5), (.slice A0_6 l0_6.length c0_6), (.slice A0_7 l0_7.length c0_7)] 37 (0, 0))) ∧ Aside0 (Below w.heap.size w w'))
              case atStart => exact ⟨(0), (by first | rfl | (simp; done) | (simp [*]; done)), H', ⟨Nat.le_refl _⟩, ⟨by (with_reducible repeat (first | refine blk_drewN ?_ _ | refine blk_drew ?_ | refine blk_alloc ?_ _)); exact BK376.out⟩, ⟨by repeat (first | (with_reducible first | exact HB.out | apply below_alloc | apply pw_below_drewN | apply below_drew1 | refine below_set ?_ GE376.out) | exact HB.out)⟩⟩
              case round =>
                clear H'
                try clear c1
                try clear q1
                try clear c2
                try clear p2
                try clear c3
                try clear p3
                try clear q3
                try clear hx3
                try clear c4
                try clear c4b0
                try clear c5
                try clear c5b0
                try clear c6
                try clear c6b0
                try clear p6
                try clear c7
                try clear c7b0
                try clear c7b1
                try clear c9
                try clear c12
                try clear c15
                try clear c15b0
                try clear c16
                try clear c16b0
                try clear c17
                try clear c17b0
                try clear q18
                try clear c19
                try clear c21
                try clear c24
                try clear hcz10_0
                try clear hcz10_1
                try clear hcz13_0
                try clear hcz13_1
                try clear hcz14_0
                try clear hcz14_1
                try clear hcz14_2
                try clear hcz14_3
                try clear hcz14_4
                try clear hcz14_5
                try clear hcz14_6
                try clear hcz14_7
                try clear hcz22_0
                try clear hcz22_1
                try clear hcz22_2
                try clear hcz22_3
                try clear hcz25_0
                try clear hcz25_1
                try clear hcz25_2
                try clear hcz25_3
                try clear hcz26_0
                try clear hcz26_1
                try clear hcz26_2
                try clear hcz26_3
                try clear hcz26_4
                try clear hcz26_5
                try clear hcz26_6
                try clear hcz26_7
                try clear hcz3_0
                try clear hcz3_1
                try clear hcz3_2
                try clear hcz3_3
                try clear hcz3_4
                try clear hcz3_5
                try clear hcz3_6
                try clear hcz3_7
                try clear hfz10_0
                try clear hfz10_1
                try clear hfz13_0
                try clear hfz13_1
                try clear hfz14_0
                try clear hfz14_1
                try clear hfz14_2
                try clear hfz14_3
                try clear hfz14_4
                try clear hfz14_5
                try clear hfz14_6
                try clear hfz14_7
                try clear hfz22_0
                try clear hfz22_1
                try clear hfz22_2
                try clear hfz22_3
                try clear hfz25_0
                try clear hfz25_1
                try clear hfz25_2
                try clear hfz25_3
                try clear hfz26_0
                try clear hfz26_1
                try clear hfz26_2
                try clear hfz26_3
                try clear hfz26_4
                try clear hfz26_5
                try clear hfz26_6
                try clear hfz26_7
                try clear hfz3_0
                try clear hfz3_1
                try clear hfz3_2
                try clear hfz3_3
                try clear hfz3_4
                try clear hfz3_5
                try clear hfz3_6
                try clear hfz3_7
                try clear hx377_0
                try clear hx377_1
                try clear hx379_0
                try clear hx379_1
                try clear hx379_2
                try clear hx379_3
                try clear p2
                try clear p3
                try clear p377
                try clear p379
                try clear p6
                try clear q3
                try clear q377
                try clear q379
                obtain ⟨x35_3, rfl, HA, HK3, BK376, HB⟩ := hrel
                cases gk with
                | zero => exact absurd HA.out (by simp [check_plain.l2])
                | succ k3 =>
                  have H := HA.out
                  clear HA
                  simp only [check_plain.l2] at H
                  by_cases c27 : x35_3 < (l0_5.length : Int)
                  · rw [if_pos c27] at H
                    have c27b0 : decide (x35_3 < (l0_5.length : Int)) = true := decide_eq_true c27
                    clear c27
                    by_cases c28 : 0 ≤ x35_3
                    · rw [if_pos c28] at H
                      have c28b0 : decide (0 ≤ x35_3) = true := decide_eq_true c28
                      clear c28
                      by_cases c29 : x35_3 < (l0_5.length : Int)
                      · rw [if_pos c29] at H
                        have c29b0 : decide (x35_3 < (l0_5.length : Int)) = true := decide_eq_true c29
                        clear c29
                        by_cases c30 : ((rd_TExp l0_5 x35_3).f1) = 3
                        · rw [if_pos c30] at H
                          have c30b0 : (((rd_TExp l0_5 x35_3).f1) == 3) = true := beq_iff_eq.mpr c30
                          have c30b1 : (((rd_TExp l0_5 x35_3).f1) != 3) = false := bne_eq_false_iff_eq.mpr c30
                          clear c30
                          by_cases c31 : 0 ≤ ((rd_TExp l0_5 x35_3).f2)
                          · rw [if_pos c31] at H
                            have c31b0 : decide (0 ≤ ((rd_TExp l0_5 x35_3).f2)) = true := decide_eq_true c31
                            clear c31
                            by_cases c32 : ((rd_TExp l0_5 x35_3).f2) < (l0_4.length : Int)
                            · rw [if_pos c32] at H
                              have c32b0 : decide (((rd_TExp l0_5 x35_3).f2) < (l0_4.length : Int)) = true := decide_eq_true c32
                              clear c32
                              obtain ⟨bq33, hbq33⟩ : ∃ b_ : Bool, b_ = ((rd_TGlob l0_4 ((rd_TExp l0_5 x35_3).f2)).f1) := ⟨_, rfl⟩
                              replace H : (if bq33 = true then (some false) else (check_plain.l2 k3 l0_5 (l0_5.length : Int) (wrap64 (x35_3 + 1)) l0_0 l0_1 l0_2 l0_3 l0_4 l0_5 l0_6 l0_7)) = some r := by rw [← hbq33] at H; exact H
                              have Nbq33 := Aside0.mk hbq33
                              clear hbq33
                              by_cases c34 : bq33 = true
                              · subst c34
                                have H1 : (some false) = some r := by rw [if_pos rfl] at H; exact H
                                clear H
                                have H := H1
                                clear H1
                                obtain rfl := Option.some.inj H
                                have p381 : 0 ≤ (x35_3 : Int) := of_decide_eq_true (by first | (with_reducible assumption) | assumption)
                                have q381 : x35_3 < (l0_5.length : Int) := of_decide_eq_true (by first | (with_reducible assumption) | assumption)
                                obtain ⟨ad381, e381, hx381_0, hx381_1, hx381_2⟩ := at_TExp HR0_5.out x35_3 p381 q381
                                cases e381
                                replace hx381_0 := (HB.out.cell (World.block_lt_of_cell? w _ hx381_0)).trans hx381_0
                                replace hx381_1 := (HB.out.cell (World.block_lt_of_cell? w _ hx381_1)).trans hx381_1
                                replace hx381_2 := (HB.out.cell (World.block_lt_of_cell? w _ hx381_2)).trans hx381_2
                                replace p381 := eq_true p381
                                replace q381 := eq_true q381
                                go_wp2_with (first | ((with_reducible refine gate_dst (N := 8) rfl ?_); refine box_event ?hg (N := 8) ?hd (cs := #[.string (⟨#[]⟩ : ByteArray), .int .i64 0, .int .i64 0]) (t := 86) ?hr ?_; (case hd => rfl); (case hg => rfl); (case hr => first | (go_simp; done) | (go_simp; rfl)); intro gb382 hg w35 hbox hb; have n0_ := Aside0.mk (blk_below (g := gb376) (o := .cells #[.slice A0_0 l0_0.length c0_0, .slice A0_1 l0_1.length c0_1, .slice A0_2 l0_2.length c0_2, .slice A0_3 l0_3.length c0_3, .slice A0_4 l0_4.length c0_4, .slice (some ad381) l0_5.length c0_5, .slice A0_6 l0_6.length c0_6, .slice A0_7 l0_7.length c0_7] 37 (0, 0)) (by (with_reducible repeat (first | refine blk_drewN ?_ _ | refine blk_drew ?_ | refine blk_alloc ?_ _)); exact BK376.out) hb); have n1_ := Aside0.mk (below_step (by repeat (first | (with_reducible first | exact HB.out | apply below_alloc | apply pw_below_drewN | apply below_drew1 | refine below_set ?_ GE376.out) | exact HB.out)) hb); have n2_ := Aside0.mk (hbox); have n3_ := Aside0.mk ((by rw [hg]; exact (below_size (by repeat (first | (with_reducible first | exact HB.out | apply below_alloc | apply pw_below_drewN | apply below_drew1 | refine below_set ?_ GE376.out) | exact HB.out))) : w.heap.size ≤ gb382)); have n4_ := Aside0.mk ((by rw [hg]; exact (below_size (by repeat (first | (with_reducible first | exact HB.out | apply below_alloc | apply pw_below_drewN | apply below_drew1 | refine below_set ?_ GE376.out) | exact HB.out))) : w.heap.size ≤ gb382)); have n5_ := Aside0.mk ((by rw [hg]; exact Nat.ne_of_lt (blk_lt (g := gb376) (o := .cells #[.slice A0_0 l0_0.length c0_0, .slice A0_1 l0_1.length c0_1, .slice A0_2 l0_2.length c0_2, .slice A0_3 l0_3.length c0_3, .slice A0_4 l0_4.length c0_4, .slice (some ad381) l0_5.length c0_5, .slice A0_6 l0_6.length c0_6, .slice A0_7 l0_7.length c0_7] 37 (0, 0)) (by (with_reducible repeat (first | refine blk_drewN ?_ _ | refine blk_drew ?_ | refine blk_alloc ?_ _)); exact BK376.out)) : gb376 ≠ gb382)); have n6_ := Aside0.mk ((by rw [hg]; exact Nat.ne_of_gt (blk_lt (g := gb376) (o := .cells #[.slice A0_0 l0_0.length c0_0, .slice A0_1 l0_1.length c0_1, .slice A0_2 l0_2.length c0_2, .slice A0_3 l0_3.length c0_3, .slice A0_4 l0_4.length c0_4, .slice (some ad381) l0_5.length c0_5, .slice A0_6 l0_6.length c0_6, .slice A0_7 l0_7.length c0_7] 37 (0, 0)) (by (with_reducible repeat (first | refine blk_drewN ?_ _ | refine blk_drew ?_ | refine blk_alloc ?_ _)); exact BK376.out)) : gb382 ≠ gb376)); clear BK376; clear HB; have BK376 := n0_; have HB := n1_; have BK382 := n2_; have GW382 := n3_; have GE382 := n4_; have NB376_382 := n5_; have NB382_376 := n6_; clear n0_ n1_ n2_ n3_ n4_ n5_ n6_; clear hb hbox hg; have hnb36 := NB382_376.out; have hnc36 := NB376_382.out; have hcz37_0 : w35.cell? ⟨gb382, 0, none⟩ = some (.string (⟨#[]⟩ : ByteArray)) := (blk_cell BK382.out 0).trans rfl; have hcz37_1 : w35.cell? ⟨gb382, 1, none⟩ = some (.int .i64 0) := (blk_cell BK382.out 1).trans rfl; have hcz37_2 : w35.cell? ⟨gb382, 2, none⟩ = some (.int .i64 0) := (blk_cell BK382.out 2).trans rfl; have hfz37_0 := blk_frozen BK382.out 0; have hfz37_1 := blk_frozen BK382.out 1; have hfz37_2 := blk_frozen BK382.out 2; have hcz38_0 : w35.cell? ⟨gb376, 0, none⟩ = some (.slice A0_0 l0_0.length c0_0) := (blk_cell BK376.out 0).trans rfl; have hcz38_1 : w35.cell? ⟨gb376, 1, none⟩ = some (.slice A0_1 l0_1.length c0_1) := (blk_cell BK376.out 1).trans rfl; have hcz38_2 : w35.cell? ⟨gb376, 2, none⟩ = some (.slice A0_2 l0_2.length c0_2) := (blk_cell BK376.out 2).trans rfl; have hcz38_3 : w35.cell? ⟨gb376, 3, none⟩ = some (.slice A0_3 l0_3.length c0_3) := (blk_cell BK376.out 3).trans rfl; have hcz38_4 : w35.cell? ⟨gb376, 4, none⟩ = some (.slice A0_4 l0_4.length c0_4) := (blk_cell BK376.out 4).trans rfl; have hcz38_5 : w35.cell? ⟨gb376, 5, none⟩ = some (.slice (some ad381) l0_5.length c0_5) := (blk_cell BK376.out 5).trans rfl; have hcz38_6 : w35.cell? ⟨gb376, 6, none⟩ = some (.slice A0_6 l0_6.length c0_6) := (blk_cell BK376.out 6).trans rfl; have hcz38_7 : w35.cell? ⟨gb376, 7, none⟩ = some (.slice A0_7 l0_7.length c0_7) := (blk_cell BK376.out 7).trans rfl; have hfz38_0 := blk_frozen BK376.out 0; have hfz38_1 := blk_frozen BK376.out 1; have hfz38_2 := blk_frozen BK376.out 2; have hfz38_3 := blk_frozen BK376.out 3; have hfz38_4 := blk_frozen BK376.out 4; have hfz38_5 := blk_frozen BK376.out 5; have hfz38_6 := blk_frozen BK376.out 6; have hfz38_7 := blk_frozen BK376.out 7; have p383 : 0 ≤ (((rd_TExp l0_5 x35_3).f2) : Int) := of_decide_eq_true (by first | (with_reducible assumption) | assumption); have q383 : ((rd_TExp l0_5 x35_3).f2) < (l0_4.length : Int) := of_decide_eq_true (by first | (with_reducible assumption) | assumption); obtain ⟨ad383, e383, hx383_0, hx383_1, hx383_2⟩ := at_TGlob HR0_4.out ((rd_TExp l0_5 x35_3).f2) p383 q383; (try rw [← Nbq33.out] at hx383_1); cases e383; have hn383_0 : ad383.block ≠ gb382 := Nat.ne_of_lt (Nat.lt_of_lt_of_le (by have := World.block_lt_of_cell? _ _ hx383_0; first | rwa [add_block] at this | exact this) GW382.out); have hn383_1 : ad383.block ≠ gb382 := Nat.ne_of_lt (Nat.lt_of_lt_of_le (by have := World.block_lt_of_cell? _ _ hx383_0; first | rwa [add_block] at this | exact this) GW382.out); have hn383_2 : ad383.block ≠ gb382 := Nat.ne_of_lt (Nat.lt_of_lt_of_le (by have := World.block_lt_of_cell? _ _ hx383_0; first | rwa [add_block] at this | exact this) GW382.out); replace hx383_0 := (HB.out.cell (World.block_lt_of_cell? w _ hx383_0)).trans hx383_0; replace hx383_1 := (HB.out.cell (World.block_lt_of_cell? w _ hx383_1)).trans hx383_1; replace hx383_2 := (HB.out.cell (World.block_lt_of_cell? w _ hx383_2)).trans hx383_2; replace hx383_0 := (cell_far (p := ⟨gb382, 0, none⟩) (by first | (rw [add_block]; exact hn383_0) | (show (Addr.add _ _).block ≠ _; rw [add_block]; exact hn383_0) | exact hn383_0) (.string ((rd_TExp l0_5 x35_3).f0))).trans hx383_0; replace hx383_1 := (cell_far (p := ⟨gb382, 0, none⟩) (by first | (rw [add_block]; exact hn383_0) | (show (Addr.add _ _).block ≠ _; rw [add_block]; exact hn383_0) | exact hn383_0) (.string ((rd_TExp l0_5 x35_3).f0))).trans hx383_1; replace hx383_2 := (cell_far (p := ⟨gb382, 0, none⟩) (by first | (rw [add_block]; exact hn383_0) | (show (Addr.add _ _).block ≠ _; rw [add_block]; exact hn383_0) | exact hn383_0) (.string ((rd_TExp l0_5 x35_3).f0))).trans hx383_2; replace hx383_0 := (cell_far (p := ⟨gb382, 1, none⟩) (by first | (rw [add_block]; exact hn383_1) | (show (Addr.add _ _).block ≠ _; rw [add_block]; exact hn383_1) | exact hn383_1) (.int .i64 ((rd_TExp l0_5 x35_3).f1))).trans hx383_0; replace hx383_1 := (cell_far (p := ⟨gb382, 1, none⟩) (by first | (rw [add_block]; exact hn383_1) | (show (Addr.add _ _).block ≠ _; rw [add_block]; exact hn383_1) | exact hn383_1) (.int .i64 ((rd_TExp l0_5 x35_3).f1))).trans hx383_1; replace hx383_2 := (cell_far (p := ⟨gb382, 1, none⟩) (by first | (rw [add_block]; exact hn383_1) | (show (Addr.add _ _).block ≠ _; rw [add_block]; exact hn383_1) | exact hn383_1) (.int .i64 ((rd_TExp l0_5 x35_3).f1))).trans hx383_2; replace hx383_0 := (cell_far (p := ⟨gb382, 2, none⟩) (by first | (rw [add_block]; exact hn383_2) | (show (Addr.add _ _).block ≠ _; rw [add_block]; exact hn383_2) | exact hn383_2) (.int .i64 ((rd_TExp l0_5 x35_3).f2))).trans hx383_0; replace hx383_1 := (cell_far (p := ⟨gb382, 2, none⟩) (by first | (rw [add_block]; exact hn383_2) | (show (Addr.add _ _).block ≠ _; rw [add_block]; exact hn383_2) | exact hn383_2) (.int .i64 ((rd_TExp l0_5 x35_3).f2))).trans hx383_1; replace hx383_2 := (cell_far (p := ⟨gb382, 2, none⟩) (by first | (rw [add_block]; exact hn383_2) | (show (Addr.add _ _).block ≠ _; rw [add_block]; exact hn383_2) | exact hn383_2) (.int .i64 ((rd_TExp l0_5 x35_3).f2))).trans hx383_2; clear hn383_0; clear hn383_1; clear hn383_2; replace p383 := eq_true p383; replace q383 := eq_true q383))
                                go_ret
                                exact ⟨by first | rfl | (simp [errW_none, errW_some] <;> rfl) | (simp [*, errW_none, errW_some] <;> rfl), by repeat (first | (with_reducible first | exact HB.out | apply below_alloc | apply pw_below_drewN | apply below_drew1 | refine below_set ?_ GE376.out | refine below_set ?_ GE382.out) | exact HB.out)⟩
                              · replace c34 := Bool.eq_false_iff.mpr c34
                                subst c34
                                have H1 : (check_plain.l2 k3 l0_5 (l0_5.length : Int) (wrap64 (x35_3 + 1)) l0_0 l0_1 l0_2 l0_3 l0_4 l0_5 l0_6 l0_7) = some r := by rw [if_neg (show ¬ (false = true) by decide)] at H; exact H
                                clear H
                                have H := H1
                                clear H1
                                have H' := Aside0.mk H
                                clear H
                                have p381 : 0 ≤ (x35_3 : Int) := of_decide_eq_true (by first | (with_reducible assumption) | assumption)
                                have q381 : x35_3 < (l0_5.length : Int) := of_decide_eq_true (by first | (with_reducible assumption) | assumption)
                                obtain ⟨ad381, e381, hx381_0, hx381_1, hx381_2⟩ := at_TExp HR0_5.out x35_3 p381 q381
                                cases e381
                                replace hx381_0 := (HB.out.cell (World.block_lt_of_cell? w _ hx381_0)).trans hx381_0
                                replace hx381_1 := (HB.out.cell (World.block_lt_of_cell? w _ hx381_1)).trans hx381_1
                                replace hx381_2 := (HB.out.cell (World.block_lt_of_cell? w _ hx381_2)).trans hx381_2
                                replace p381 := eq_true p381
                                replace q381 := eq_true q381
                                go_wp2_with (first | ((with_reducible refine gate_dst (N := 8) rfl ?_); refine box_event ?hg (N := 8) ?hd (cs := #[.string (⟨#[]⟩ : ByteArray), .int .i64 0, .int .i64 0]) (t := 86) ?hr ?_; (case hd => rfl); (case hg => rfl); (case hr => first | (go_simp; done) | (go_simp; rfl)); intro gb382 hg w39 hbox hb; have n0_ := Aside0.mk (blk_below (g := gb376) (o := .cells #[.slice A0_0 l0_0.length c0_0, .slice A0_1 l0_1.length c0_1, .slice A0_2 l0_2.length c0_2, .slice A0_3 l0_3.length c0_3, .slice A0_4 l0_4.length c0_4, .slice (some ad381) l0_5.length c0_5, .slice A0_6 l0_6.length c0_6, .slice A0_7 l0_7.length c0_7] 37 (0, 0)) (by (with_reducible repeat (first | refine blk_drewN ?_ _ | refine blk_drew ?_ | refine blk_alloc ?_ _)); exact BK376.out) hb); have n1_ := Aside0.mk (below_step (by repeat (first | (with_reducible first | exact HB.out | apply below_alloc | apply pw_below_drewN | apply below_drew1 | refine below_set ?_ GE376.out) | exact HB.out)) hb); have n2_ := Aside0.mk (hbox); have n3_ := Aside0.mk ((by rw [hg]; exact (below_size (by repeat (first | (with_reducible first | exact HB.out | apply below_alloc | apply pw_below_drewN | apply below_drew1 | refine below_set ?_ GE376.out) | exact HB.out))) : w.heap.size ≤ gb382)); have n4_ := Aside0.mk ((by rw [hg]; exact (below_size (by repeat (first | (with_reducible first | exact HB.out | apply below_alloc | apply pw_below_drewN | apply below_drew1 | refine below_set ?_ GE376.out) | exact HB.out))) : w.heap.size ≤ gb382)); have n5_ := Aside0.mk ((by rw [hg]; exact Nat.ne_of_lt (blk_lt (g := gb376) (o := .cells #[.slice A0_0 l0_0.length c0_0, .slice A0_1 l0_1.length c0_1, .slice A0_2 l0_2.length c0_2, .slice A0_3 l0_3.length c0_3, .slice A0_4 l0_4.length c0_4, .slice (some ad381) l0_5.length c0_5, .slice A0_6 l0_6.length c0_6, .slice A0_7 l0_7.length c0_7] 37 (0, 0)) (by (with_reducible repeat (first | refine blk_drewN ?_ _ | refine blk_drew ?_ | refine blk_alloc ?_ _)); exact BK376.out)) : gb376 ≠ gb382)); have n6_ := Aside0.mk ((by rw [hg]; exact Nat.ne_of_gt (blk_lt (g := gb376) (o := .cells #[.slice A0_0 l0_0.length c0_0, .slice A0_1 l0_1.length c0_1, .slice A0_2 l0_2.length c0_2, .slice A0_3 l0_3.length c0_3, .slice A0_4 l0_4.length c0_4, .slice (some ad381) l0_5.length c0_5, .slice A0_6 l0_6.length c0_6, .slice A0_7 l0_7.length c0_7] 37 (0, 0)) (by (with_reducible repeat (first | refine blk_drewN ?_ _ | refine blk_drew ?_ | refine blk_alloc ?_ _)); exact BK376.out)) : gb382 ≠ gb376)); clear BK376; clear HB; have BK376 := n0_; have HB := n1_; have BK382 := n2_; have GW382 := n3_; have GE382 := n4_; have NB376_382 := n5_; have NB382_376 := n6_; clear n0_ n1_ n2_ n3_ n4_ n5_ n6_; clear hb hbox hg; have hnb40 := NB382_376.out; have hnc40 := NB376_382.out; have hcz41_0 : w39.cell? ⟨gb382, 0, none⟩ = some (.string (⟨#[]⟩ : ByteArray)) := (blk_cell BK382.out 0).trans rfl; have hcz41_1 : w39.cell? ⟨gb382, 1, none⟩ = some (.int .i64 0) := (blk_cell BK382.out 1).trans rfl; have hcz41_2 : w39.cell? ⟨gb382, 2, none⟩ = some (.int .i64 0) := (blk_cell BK382.out 2).trans rfl; have hfz41_0 := blk_frozen BK382.out 0; have hfz41_1 := blk_frozen BK382.out 1; have hfz41_2 := blk_frozen BK382.out 2; have hcz42_0 : w39.cell? ⟨gb376, 0, none⟩ = some (.slice A0_0 l0_0.length c0_0) := (blk_cell BK376.out 0).trans rfl; have hcz42_1 : w39.cell? ⟨gb376, 1, none⟩ = some (.slice A0_1 l0_1.length c0_1) := (blk_cell BK376.out 1).trans rfl; have hcz42_2 : w39.cell? ⟨gb376, 2, none⟩ = some (.slice A0_2 l0_2.length c0_2) := (blk_cell BK376.out 2).trans rfl; have hcz42_3 : w39.cell? ⟨gb376, 3, none⟩ = some (.slice A0_3 l0_3.length c0_3) := (blk_cell BK376.out 3).trans rfl; have hcz42_4 : w39.cell? ⟨gb376, 4, none⟩ = some (.slice A0_4 l0_4.length c0_4) := (blk_cell BK376.out 4).trans rfl; have hcz42_5 : w39.cell? ⟨gb376, 5, none⟩ = some (.slice (some ad381) l0_5.length c0_5) := (blk_cell BK376.out 5).trans rfl; have hcz42_6 : w39.cell? ⟨gb376, 6, none⟩ = some (.slice A0_6 l0_6.length c0_6) := (blk_cell BK376.out 6).trans rfl; have hcz42_7 : w39.cell? ⟨gb376, 7, none⟩ = some (.slice A0_7 l0_7.length c0_7) := (blk_cell BK376.out 7).trans rfl; have hfz42_0 := blk_frozen BK376.out 0; have hfz42_1 := blk_frozen BK376.out 1; have hfz42_2 := blk_frozen BK376.out 2; have hfz42_3 := blk_frozen BK376.out 3; have hfz42_4 := blk_frozen BK376.out 4; have hfz42_5 := blk_frozen BK376.out 5; have hfz42_6 := blk_frozen BK376.out 6; have hfz42_7 := blk_frozen BK376.out 7; have p383 : 0 ≤ (((rd_TExp l0_5 x35_3).f2) : Int) := of_decide_eq_true (by first | (with_reducible assumption) | assumption); have q383 : ((rd_TExp l0_5 x35_3).f2) < (l0_4.length : Int) := of_decide_eq_true (by first | (with_reducible assumption) | assumption); obtain ⟨ad383, e383, hx383_0, hx383_1, hx383_2⟩ := at_TGlob HR0_4.out ((rd_TExp l0_5 x35_3).f2) p383 q383; (try rw [← Nbq33.out] at hx383_1); cases e383; have hn383_0 : ad383.block ≠ gb382 := Nat.ne_of_lt (Nat.lt_of_lt_of_le (by have := World.block_lt_of_cell? _ _ hx383_0; first | rwa [add_block] at this | exact this) GW382.out); have hn383_1 : ad383.block ≠ gb382 := Nat.ne_of_lt (Nat.lt_of_lt_of_le (by have := World.block_lt_of_cell? _ _ hx383_0; first | rwa [add_block] at this | exact this) GW382.out); have hn383_2 : ad383.block ≠ gb382 := Nat.ne_of_lt (Nat.lt_of_lt_of_le (by have := World.block_lt_of_cell? _ _ hx383_0; first | rwa [add_block] at this | exact this) GW382.out); replace hx383_0 := (HB.out.cell (World.block_lt_of_cell? w _ hx383_0)).trans hx383_0; replace hx383_1 := (HB.out.cell (World.block_lt_of_cell? w _ hx383_1)).trans hx383_1; replace hx383_2 := (HB.out.cell (World.block_lt_of_cell? w _ hx383_2)).trans hx383_2; replace hx383_0 := (cell_far (p := ⟨gb382, 0, none⟩) (by first | (rw [add_block]; exact hn383_0) | (show (Addr.add _ _).block ≠ _; rw [add_block]; exact hn383_0) | exact hn383_0) (.string ((rd_TExp l0_5 x35_3).f0))).trans hx383_0; replace hx383_1 := (cell_far (p := ⟨gb382, 0, none⟩) (by first | (rw [add_block]; exact hn383_0) | (show (Addr.add _ _).block ≠ _; rw [add_block]; exact hn383_0) | exact hn383_0) (.string ((rd_TExp l0_5 x35_3).f0))).trans hx383_1; replace hx383_2 := (cell_far (p := ⟨gb382, 0, none⟩) (by first | (rw [add_block]; exact hn383_0) | (show (Addr.add _ _).block ≠ _; rw [add_block]; exact hn383_0) | exact hn383_0) (.string ((rd_TExp l0_5 x35_3).f0))).trans hx383_2; replace hx383_0 := (cell_far (p := ⟨gb382, 1, none⟩) (by first | (rw [add_block]; exact hn383_1) | (show (Addr.add _ _).block ≠ _; rw [add_block]; exact hn383_1) | exact hn383_1) (.int .i64 ((rd_TExp l0_5 x35_3).f1))).trans hx383_0; replace hx383_1 := (cell_far (p := ⟨gb382, 1, none⟩) (by first | (rw [add_block]; exact hn383_1) | (show (Addr.add _ _).block ≠ _; rw [add_block]; exact hn383_1) | exact hn383_1) (.int .i64 ((rd_TExp l0_5 x35_3).f1))).trans hx383_1; replace hx383_2 := (cell_far (p := ⟨gb382, 1, none⟩) (by first | (rw [add_block]; exact hn383_1) | (show (Addr.add _ _).block ≠ _; rw [add_block]; exact hn383_1) | exact hn383_1) (.int .i64 ((rd_TExp l0_5 x35_3).f1))).trans hx383_2; replace hx383_0 := (cell_far (p := ⟨gb382, 2, none⟩) (by first | (rw [add_block]; exact hn383_2) | (show (Addr.add _ _).block ≠ _; rw [add_block]; exact hn383_2) | exact hn383_2) (.int .i64 ((rd_TExp l0_5 x35_3).f2))).trans hx383_0; replace hx383_1 := (cell_far (p := ⟨gb382, 2, none⟩) (by first | (rw [add_block]; exact hn383_2) | (show (Addr.add _ _).block ≠ _; rw [add_block]; exact hn383_2) | exact hn383_2) (.int .i64 ((rd_TExp l0_5 x35_3).f2))).trans hx383_1; replace hx383_2 := (cell_far (p := ⟨gb382, 2, none⟩) (by first | (rw [add_block]; exact hn383_2) | (show (Addr.add _ _).block ≠ _; rw [add_block]; exact hn383_2) | exact hn383_2) (.int .i64 ((rd_TExp l0_5 x35_3).f2))).trans hx383_2; clear hn383_0; clear hn383_1; clear hn383_2; replace p383 := eq_true p383; replace q383 := eq_true q383))
                                go_roundg k3
                                case measure => have := HK1.out; have := HK2.out; have := HK3.out; omega
                                case rel => exact ⟨(wrap64 (x35_3 + 1)), (by first | rfl | (simp; done) | (simp [*]; done)), H', ⟨by have := HK1.out; have := HK2.out; have := HK3.out; omega⟩, ⟨by (with_reducible repeat (first | refine blk_drewN ?_ _ | refine blk_drew ?_ | refine blk_alloc ?_ _)); refine blk_far ?_ NB376_382.out _; (with_reducible repeat (first | refine blk_drewN ?_ _ | refine blk_drew ?_ | refine blk_alloc ?_ _)); refine blk_far ?_ NB376_382.out _; (with_reducible repeat (first | refine blk_drewN ?_ _ | refine blk_drew ?_ | refine blk_alloc ?_ _)); refine blk_far ?_ NB376_382.out _; (with_reducible repeat (first | refine blk_drewN ?_ _ | refine blk_drew ?_ | refine blk_alloc ?_ _)); exact BK376.out⟩, ⟨by repeat (first | (with_reducible first | exact HB.out | apply below_alloc | apply pw_below_drewN | apply below_drew1 | refine below_set ?_ GE376.out | refine below_set ?_ GE382.out) | exact HB.out)⟩⟩
                            · rw [if_neg c32] at H
                              exact absurd H (by simp)
                          · rw [if_neg c31] at H
                            exact absurd H (by simp)
                        · rw [if_neg c30] at H
                          have c30b0 : (((rd_TExp l0_5 x35_3).f1) == 3) = false := beq_eq_false_iff_ne.mpr c30
                          have c30b1 : (((rd_TExp l0_5 x35_3).f1) != 3) = true := bne_iff_ne.mpr c30
                          have H' := Aside0.mk H
                          clear H
                          have p381 : 0 ≤ (x35_3 : Int) := of_decide_eq_true (by first | (with_reducible assumption) | assumption)
                          have q381 : x35_3 < (l0_5.length : Int) := of_decide_eq_true (by first | (with_reducible assumption) | assumption)
                          obtain ⟨ad381, e381, hx381_0, hx381_1, hx381_2⟩ := at_TExp HR0_5.out x35_3 p381 q381
                          cases e381
                          replace hx381_0 := (HB.out.cell (World.block_lt_of_cell? w _ hx381_0)).trans hx381_0
                          replace hx381_1 := (HB.out.cell (World.block_lt_of_cell? w _ hx381_1)).trans hx381_1
                          replace hx381_2 := (HB.out.cell (World.block_lt_of_cell? w _ hx381_2)).trans hx381_2
                          replace p381 := eq_true p381
                          replace q381 := eq_true q381
                          go_wp2_with (first | ((with_reducible refine gate_dst (N := 8) rfl ?_); refine box_event ?hg (N := 8) ?hd (cs := #[.string (⟨#[]⟩ : ByteArray), .int .i64 0, .int .i64 0]) (t := 86) ?hr ?_; (case hd => rfl); (case hg => rfl); (case hr => first | (go_simp; done) | (go_simp; rfl)); intro gb382 hg w43 hbox hb; have n0_ := Aside0.mk (blk_below (g := gb376) (o := .cells #[.slice A0_0 l0_0.length c0_0, .slice A0_1 l0_1.length c0_1, .slice A0_2 l0_2.length c0_2, .slice A0_3 l0_3.length c0_3, .slice A0_4 l0_4.length c0_4, .slice (some ad381) l0_5.length c0_5, .slice A0_6 l0_6.length c0_6, .slice A0_7 l0_7.length c0_7] 37 (0, 0)) (by (with_reducible repeat (first | refine blk_drewN ?_ _ | refine blk_drew ?_ | refine blk_alloc ?_ _)); exact BK376.out) hb); have n1_ := Aside0.mk (below_step (by repeat (first | (with_reducible first | exact HB.out | apply below_alloc | apply pw_below_drewN | apply below_drew1 | refine below_set ?_ GE376.out) | exact HB.out)) hb); have n2_ := Aside0.mk (hbox); have n3_ := Aside0.mk ((by rw [hg]; exact (below_size (by repeat (first | (with_reducible first | exact HB.out | apply below_alloc | apply pw_below_drewN | apply below_drew1 | refine below_set ?_ GE376.out) | exact HB.out))) : w.heap.size ≤ gb382)); have n4_ := Aside0.mk ((by rw [hg]; exact (below_size (by repeat (first | (with_reducible first | exact HB.out | apply below_alloc | apply pw_below_drewN | apply below_drew1 | refine below_set ?_ GE376.out) | exact HB.out))) : w.heap.size ≤ gb382)); have n5_ := Aside0.mk ((by rw [hg]; exact Nat.ne_of_lt (blk_lt (g := gb376) (o := .cells #[.slice A0_0 l0_0.length c0_0, .slice A0_1 l0_1.length c0_1, .slice A0_2 l0_2.length c0_2, .slice A0_3 l0_3.length c0_3, .slice A0_4 l0_4.length c0_4, .slice (some ad381) l0_5.length c0_5, .slice A0_6 l0_6.length c0_6, .slice A0_7 l0_7.length c0_7] 37 (0, 0)) (by (with_reducible repeat (first | refine blk_drewN ?_ _ | refine blk_drew ?_ | refine blk_alloc ?_ _)); exact BK376.out)) : gb376 ≠ gb382)); have n6_ := Aside0.mk ((by rw [hg]; exact Nat.ne_of_gt (blk_lt (g := gb376) (o := .cells #[.slice A0_0 l0_0.length c0_0, .slice A0_1 l0_1.length c0_1, .slice A0_2 l0_2.length c0_2, .slice A0_3 l0_3.length c0_3, .slice A0_4 l0_4.length c0_4, .slice (some ad381) l0_5.length c0_5, .slice A0_6 l0_6.length c0_6, .slice A0_7 l0_7.length c0_7] 37 (0, 0)) (by (with_reducible repeat (first | refine blk_drewN ?_ _ | refine blk_drew ?_ | refine blk_alloc ?_ _)); exact BK376.out)) : gb382 ≠ gb376)); clear BK376; clear HB; have BK376 := n0_; have HB := n1_; have BK382 := n2_; have GW382 := n3_; have GE382 := n4_; have NB376_382 := n5_; have NB382_376 := n6_; clear n0_ n1_ n2_ n3_ n4_ n5_ n6_; clear hb hbox hg; have hnb44 := NB382_376.out; have hnc44 := NB376_382.out; have hcz45_0 : w43.cell? ⟨gb382, 0, none⟩ = some (.string (⟨#[]⟩ : ByteArray)) := (blk_cell BK382.out 0).trans rfl; have hcz45_1 : w43.cell? ⟨gb382, 1, none⟩ = some (.int .i64 0) := (blk_cell BK382.out 1).trans rfl; have hcz45_2 : w43.cell? ⟨gb382, 2, none⟩ = some (.int .i64 0) := (blk_cell BK382.out 2).trans rfl; have hfz45_0 := blk_frozen BK382.out 0; have hfz45_1 := blk_frozen BK382.out 1; have hfz45_2 := blk_frozen BK382.out 2))
                          go_roundg k3
                          case measure => have := HK1.out; have := HK2.out; have := HK3.out; omega
                          case rel => exact ⟨(wrap64 (x35_3 + 1)), (by first | rfl | (simp; done) | (simp [*]; done)), H', ⟨by have := HK1.out; have := HK2.out; have := HK3.out; omega⟩, ⟨by (with_reducible repeat (first | refine blk_drewN ?_ _ | refine blk_drew ?_ | refine blk_alloc ?_ _)); refine blk_far ?_ NB376_382.out _; (with_reducible repeat (first | refine blk_drewN ?_ _ | refine blk_drew ?_ | refine blk_alloc ?_ _)); refine blk_far ?_ NB376_382.out _; (with_reducible repeat (first | refine blk_drewN ?_ _ | refine blk_drew ?_ | refine blk_alloc ?_ _)); refine blk_far ?_ NB376_382.out _; (with_reducible repeat (first | refine blk_drewN ?_ _ | refine blk_drew ?_ | refine blk_alloc ?_ _)); exact BK376.out⟩, ⟨by repeat (first | (with_reducible first | exact HB.out | apply below_alloc | apply pw_below_drewN | apply below_drew1 | refine below_set ?_ GE376.out | refine below_set ?_ GE382.out) | exact HB.out)⟩⟩
                      · rw [if_neg c29] at H
                        exact absurd H (by simp)
                    · rw [if_neg c28] at H
                      exact absurd H (by simp)
                  · rw [if_neg c27] at H
                    have c27b0 : decide (x35_3 < (l0_5.length : Int)) = false := decide_eq_false c27
                    clear c27
                    obtain rfl := Option.some.inj H
                    have hcz46_0 : wr.cell? ⟨gb376, 0, none⟩ = some (.slice A0_0 l0_0.length c0_0) := (blk_cell BK376.out 0).trans rfl
                    have hcz46_1 : wr.cell? ⟨gb376, 1, none⟩ = some (.slice A0_1 l0_1.length c0_1) := (blk_cell BK376.out 1).trans rfl
                    have hcz46_2 : wr.cell? ⟨gb376, 2, none⟩ = some (.slice A0_2 l0_2.length c0_2) := (blk_cell BK376.out 2).trans rfl
                    have hcz46_3 : wr.cell? ⟨gb376, 3, none⟩ = some (.slice A0_3 l0_3.length c0_3) := (blk_cell BK376.out 3).trans rfl
                    have hcz46_4 : wr.cell? ⟨gb376, 4, none⟩ = some (.slice A0_4 l0_4.length c0_4) := (blk_cell BK376.out 4).trans rfl
                    have hcz46_5 : wr.cell? ⟨gb376, 5, none⟩ = some (.slice A0_5 l0_5.length c0_5) := (blk_cell BK376.out 5).trans rfl
                    have hcz46_6 : wr.cell? ⟨gb376, 6, none⟩ = some (.slice A0_6 l0_6.length c0_6) := (blk_cell BK376.out 6).trans rfl
                    have hcz46_7 : wr.cell? ⟨gb376, 7, none⟩ = some (.slice A0_7 l0_7.length c0_7) := (blk_cell BK376.out 7).trans rfl
                    have hfz46_0 := blk_frozen BK376.out 0
                    have hfz46_1 := blk_frozen BK376.out 1
                    have hfz46_2 := blk_frozen BK376.out 2
                    have hfz46_3 := blk_frozen BK376.out 3
                    have hfz46_4 := blk_frozen BK376.out 4
                    have hfz46_5 := blk_frozen BK376.out 5
                    have hfz46_6 := blk_frozen BK376.out 6
                    have hfz46_7 := blk_frozen BK376.out 7
                    go_wp2
                    go_ret
                    exact ⟨by first | rfl | (simp [errW_none, errW_some] <;> rfl) | (simp [*, errW_none, errW_some] <;> rfl), by repeat (first | (with_reducible first | exact HB.out | apply below_alloc | apply pw_below_drewN | apply below_drew1 | refine below_set ?_ GE376.out) | exact HB.out)⟩
mutual
def plainsongref10_flat.l0 : Nat → List (STy) → Int → Int → List (STy) → List (SImp) → List (SFun) → List (SMem) → List (SGlob) → List (SExp) → List (SData) → List (SCus) → Option (Bool)
  | 0, _, _, _, _, _, _, _, _, _, _, _ => none
  | k + 1, x10, x11, x12, x662000, x662001, x662002, x662003, x662004, x662005, x662006, x662007 => if x12 < x11 then (if 0 ≤ x12 then (if x12 < (x10.length : Int) then (if (((rd_TTy x10 x12).f1).length : Int) > 1 then (some false) else (plainsongref10_flat.l0 k x10 x11 (wrap64 (x12 + 1)) x662000 x662001 x662002 x662003 x662004 x662005 x662006 x662007)) else (none)) else (none)) else (plainsongref10_flat.l1 k x662006 (x662006.length : Int) 0 x662000 x662001 x662002 x662003 x662004 x662005 x662006 x662007)
def plainsongref10_flat.l1 : Nat → List (SData) → Int → Int → List (STy) → List (SImp) → List (SFun) → List (SMem) → List (SGlob) → List (SExp) → List (SData) → List (SCus) → Option (Bool)
  | 0, _, _, _, _, _, _, _, _, _, _, _ => none
  | k + 1, x22, x23, x24, x662000, x662001, x662002, x662003, x662004, x662005, x662006, x662007 => if x24 < x23 then (if 0 ≤ x24 then (if x24 < (x22.length : Int) then (if ((rd_TData x22 x24).f0 = true) then (plainsongref10_flat.l1 k x22 x23 (wrap64 (x24 + 1)) x662000 x662001 x662002 x662003 x662004 x662005 x662006 x662007) else (some false)) else (none)) else (none)) else (plainsongref10_flat.l2 k x662005 (x662005.length : Int) 0 x662000 x662001 x662002 x662003 x662004 x662005 x662006 x662007)
def plainsongref10_flat.l2 : Nat → List (SExp) → Int → Int → List (STy) → List (SImp) → List (SFun) → List (SMem) → List (SGlob) → List (SExp) → List (SData) → List (SCus) → Option (Bool)
  | 0, _, _, _, _, _, _, _, _, _, _, _ => none
  | k + 1, x33, x34, x35, x662000, x662001, x662002, x662003, x662004, x662005, x662006, x662007 => if x35 < x34 then (if 0 ≤ x35 then (if x35 < (x33.length : Int) then (if ((rd_TExp x33 x35).f1) = 3 then (if 0 ≤ ((rd_TExp x33 x35).f2) then (if ((rd_TExp x33 x35).f2) < (x662004.length : Int) then (if (rd_TGlob x662004 ((rd_TExp x33 x35).f2)).f1 = true then (some false) else (plainsongref10_flat.l2 k x33 x34 (wrap64 (x35 + 1)) x662000 x662001 x662002 x662003 x662004 x662005 x662006 x662007)) else (none)) else (none)) else (plainsongref10_flat.l2 k x33 x34 (wrap64 (x35 + 1)) x662000 x662001 x662002 x662003 x662004 x662005 x662006 x662007)) else (none)) else (none)) else (some (decide ((x662003.length : Int) ≤ 1)))
end
def plainsongref10_flat.f (k : Nat) (l0_0 : List (STy)) (l0_1 : List (SImp)) (l0_2 : List (SFun)) (l0_3 : List (SMem)) (l0_4 : List (SGlob)) (l0_5 : List (SExp)) (l0_6 : List (SData)) (l0_7 : List (SCus)) : Option (Bool) := plainsongref10_flat.l0 k l0_0 (l0_0.length : Int) 0 l0_0 l0_1 l0_2 l0_3 l0_4 l0_5 l0_6 l0_7
theorem plainsongref10_flat.mono_l : ∀ k, (∀ y0 y1 y2 y3 y4 y5 y6 y7 y8 y9 y10, LeO (plainsongref10_flat.l0 k y0 y1 y2 y3 y4 y5 y6 y7 y8 y9 y10) (plainsongref10_flat.l0 (k + 1) y0 y1 y2 y3 y4 y5 y6 y7 y8 y9 y10)) ∧ (∀ y0 y1 y2 y3 y4 y5 y6 y7 y8 y9 y10, LeO (plainsongref10_flat.l1 k y0 y1 y2 y3 y4 y5 y6 y7 y8 y9 y10) (plainsongref10_flat.l1 (k + 1) y0 y1 y2 y3 y4 y5 y6 y7 y8 y9 y10)) ∧ (∀ y0 y1 y2 y3 y4 y5 y6 y7 y8 y9 y10, LeO (plainsongref10_flat.l2 k y0 y1 y2 y3 y4 y5 y6 y7 y8 y9 y10) (plainsongref10_flat.l2 (k + 1) y0 y1 y2 y3 y4 y5 y6 y7 y8 y9 y10))
  | 0 => ⟨fun _ _ _ _ _ _ _ _ _ _ _ r h => by simp [plainsongref10_flat.l0] at h, fun _ _ _ _ _ _ _ _ _ _ _ r h => by simp [plainsongref10_flat.l1] at h, fun _ _ _ _ _ _ _ _ _ _ _ r h => by simp [plainsongref10_flat.l2] at h⟩
  | k + 1 => by
    obtain ⟨ih0, ih1, ih2⟩ := plainsongref10_flat.mono_l k
    refine ⟨?_, ?_, ?_⟩
    · intro y0 y1 y2 y3 y4 y5 y6 y7 y8 y9 y10
      unfold plainsongref10_flat.l0
      repeat' first
      | (with_reducible exact ih0 _ _ _ _ _ _ _ _ _ _ _)
      | (with_reducible exact ih1 _ _ _ _ _ _ _ _ _ _ _)
      | (with_reducible exact ih2 _ _ _ _ _ _ _ _ _ _ _)
      | (with_reducible exact LeO.refl _)
      | (with_reducible exact LeO.none _)
      | (with_reducible refine LeO.ite ?_ ?_)
      | (with_reducible refine LeO.bind ?_ (fun _ => ?_))
      | exact ih0 _ _ _ _ _ _ _ _ _ _ _
      | exact ih1 _ _ _ _ _ _ _ _ _ _ _
      | exact ih2 _ _ _ _ _ _ _ _ _ _ _
      | exact LeO.none _
      | refine LeO.ite ?_ ?_
      | refine LeO.bind ?_ (fun _ => ?_)
    · intro y0 y1 y2 y3 y4 y5 y6 y7 y8 y9 y10
      unfold plainsongref10_flat.l1
      repeat' first
      | (with_reducible exact ih0 _ _ _ _ _ _ _ _ _ _ _)
      | (with_reducible exact ih1 _ _ _ _ _ _ _ _ _ _ _)
      | (with_reducible exact ih2 _ _ _ _ _ _ _ _ _ _ _)
      | (with_reducible exact LeO.refl _)
      | (with_reducible exact LeO.none _)
      | (with_reducible refine LeO.ite ?_ ?_)
      | (with_reducible refine LeO.bind ?_ (fun _ => ?_))
      | exact ih0 _ _ _ _ _ _ _ _ _ _ _
      | exact ih1 _ _ _ _ _ _ _ _ _ _ _
      | exact ih2 _ _ _ _ _ _ _ _ _ _ _
      | exact LeO.none _
      | refine LeO.ite ?_ ?_
      | refine LeO.bind ?_ (fun _ => ?_)
    · intro y0 y1 y2 y3 y4 y5 y6 y7 y8 y9 y10
      unfold plainsongref10_flat.l2
      repeat' first
      | (with_reducible exact ih0 _ _ _ _ _ _ _ _ _ _ _)
      | (with_reducible exact ih1 _ _ _ _ _ _ _ _ _ _ _)
      | (with_reducible exact ih2 _ _ _ _ _ _ _ _ _ _ _)
      | (with_reducible exact LeO.refl _)
      | (with_reducible exact LeO.none _)
      | (with_reducible refine LeO.ite ?_ ?_)
      | (with_reducible refine LeO.bind ?_ (fun _ => ?_))
      | exact ih0 _ _ _ _ _ _ _ _ _ _ _
      | exact ih1 _ _ _ _ _ _ _ _ _ _ _
      | exact ih2 _ _ _ _ _ _ _ _ _ _ _
      | exact LeO.none _
      | refine LeO.ite ?_ ?_
      | refine LeO.bind ?_ (fun _ => ?_)
theorem plainsongref10_flat.mono : ∀ a0 a1 a2 a3 a4 a5 a6 a7 k, LeO (plainsongref10_flat.f k a0 a1 a2 a3 a4 a5 a6 a7) (plainsongref10_flat.f (k + 1) a0 a1 a2 a3 a4 a5 a6 a7) := by
  intro a0 a1 a2 a3 a4 a5 a6 a7 k
  obtain ⟨ih0, ih1, ih2⟩ := plainsongref10_flat.mono_l k
  unfold plainsongref10_flat.f
  repeat' first
      | (with_reducible exact ih0 _ _ _ _ _ _ _ _ _ _ _)
      | (with_reducible exact ih1 _ _ _ _ _ _ _ _ _ _ _)
      | (with_reducible exact ih2 _ _ _ _ _ _ _ _ _ _ _)
      | (with_reducible exact LeO.refl _)
      | (with_reducible exact LeO.none _)
      | (with_reducible refine LeO.ite ?_ ?_)
      | (with_reducible refine LeO.bind ?_ (fun _ => ?_))
      | exact ih0 _ _ _ _ _ _ _ _ _ _ _
      | exact ih1 _ _ _ _ _ _ _ _ _ _ _
      | exact ih2 _ _ _ _ _ _ _ _ _ _ _
      | exact LeO.none _
      | refine LeO.ite ?_ ?_
      | refine LeO.bind ?_ (fun _ => ?_)
set_option maxHeartbeats 8000000 in
set_option maxRecDepth 100000 in
theorem plainsongref10_flat.calls (k : Nat) (A0_0 : Option Addr) (c0_0 : Nat) (l0_0 : List (STy)) (A0_1 : Option Addr) (c0_1 : Nat) (l0_1 : List (SImp)) (A0_2 : Option Addr) (c0_2 : Nat) (l0_2 : List (SFun)) (A0_3 : Option Addr) (c0_3 : Nat) (l0_3 : List (SMem)) (A0_4 : Option Addr) (c0_4 : Nat) (l0_4 : List (SGlob)) (A0_5 : Option Addr) (c0_5 : Nat) (l0_5 : List (SExp)) (A0_6 : Option Addr) (c0_6 : Nat) (l0_6 : List (SData)) (A0_7 : Option Addr) (c0_7 : Nat) (l0_7 : List (SCus)) (r : Bool) (w : World) (hr0_0 : Kd.C kTy w A0_0 l0_0.length l0_0) (hc0_0 : l0_0.length ≤ c0_0) (hr0_1 : Kd.C kImp w A0_1 l0_1.length l0_1) (hc0_1 : l0_1.length ≤ c0_1) (hr0_2 : Kd.C kFun w A0_2 l0_2.length l0_2) (hc0_2 : l0_2.length ≤ c0_2) (hr0_3 : Kd.C kMem w A0_3 l0_3.length l0_3) (hc0_3 : l0_3.length ≤ c0_3) (hr0_4 : Kd.C kGlob w A0_4 l0_4.length l0_4) (hc0_4 : l0_4.length ≤ c0_4) (hr0_5 : Kd.C kExp w A0_5 l0_5.length l0_5) (hc0_5 : l0_5.length ≤ c0_5) (hr0_6 : Kd.C kData w A0_6 l0_6.length l0_6) (hc0_6 : l0_6.length ≤ c0_6) (hr0_7 : Kd.C kCus w A0_7 l0_7.length l0_7) (hc0_7 : l0_7.length ≤ c0_7) (h : plainsongref10_flat.f k l0_0 l0_1 l0_2 l0_3 l0_4 l0_5 l0_6 l0_7 = some r) :
    Calls Tryz.prog 103 #[.agg #[.slice A0_0 l0_0.length c0_0, .slice A0_1 l0_1.length c0_1, .slice A0_2 l0_2.length c0_2, .slice A0_3 l0_3.length c0_3, .slice A0_4 l0_4.length c0_4, .slice A0_5 l0_5.length c0_5, .slice A0_6 l0_6.length c0_6, .slice A0_7 l0_7.length c0_7]] w fun e w' => e = .returned (.bool r) ∧ Below w.heap.size w w' := by
  have hu37 := Tryz.underlying37
  have hu40 := Tryz.underlying40
  have hu76 := Tryz.underlying76
  have hu86 := Tryz.underlying86
  have HR0_0 := Aside0.mk hr0_0
  have HC0_0 := Aside0.mk hc0_0
  clear hr0_0 hc0_0
  have HR0_1 := Aside0.mk hr0_1
  have HC0_1 := Aside0.mk hc0_1
  clear hr0_1 hc0_1
  have HR0_2 := Aside0.mk hr0_2
  have HC0_2 := Aside0.mk hc0_2
  clear hr0_2 hc0_2
  have HR0_3 := Aside0.mk hr0_3
  have HC0_3 := Aside0.mk hc0_3
  clear hr0_3 hc0_3
  have HR0_4 := Aside0.mk hr0_4
  have HC0_4 := Aside0.mk hc0_4
  clear hr0_4 hc0_4
  have HR0_5 := Aside0.mk hr0_5
  have HC0_5 := Aside0.mk hc0_5
  clear hr0_5 hc0_5
  have HR0_6 := Aside0.mk hr0_6
  have HC0_6 := Aside0.mk hc0_6
  clear hr0_6 hc0_6
  have HR0_7 := Aside0.mk hr0_7
  have HC0_7 := Aside0.mk hc0_7
  clear hr0_7 hc0_7
  have HB := Aside0.mk (Below.refl w.heap.size w)
  have H : (plainsongref10_flat.l0 k l0_0 (l0_0.length : Int) 0 l0_0 l0_1 l0_2 l0_3 l0_4 l0_5 l0_6 l0_7) = some r := h
  clear h
  have H' := Aside0.mk H
  clear H
  go_enter Tryz.func103, Tryz.ntmps103
  go_wp2_with (first | ((with_reducible refine gate_dst (N := 1) rfl ?_); refine box_event ?hg (N := 1) ?hd (cs := #[.slice A0_0 l0_0.length c0_0, .slice A0_1 l0_1.length c0_1, .slice A0_2 l0_2.length c0_2, .slice A0_3 l0_3.length c0_3, .slice A0_4 l0_4.length c0_4, .slice A0_5 l0_5.length c0_5, .slice A0_6 l0_6.length c0_6, .slice A0_7 l0_7.length c0_7]) (t := 37) ?hr ?_; (case hd => rfl); (case hg => rfl); (case hr => first | (go_simp; done) | (go_simp; rfl)); intro gb661 hg w2 hbox hb; have n0_ := Aside0.mk (below_step (by repeat (first | (with_reducible first | exact HB.out | apply below_alloc | apply pw_below_drewN | apply below_drew1) | exact HB.out)) hb); have n1_ := Aside0.mk (hbox); have n2_ := Aside0.mk ((by rw [hg]; exact (below_size (by repeat (first | (with_reducible first | exact HB.out | apply below_alloc | apply pw_below_drewN | apply below_drew1) | exact HB.out))) : w.heap.size ≤ gb661)); have n3_ := Aside0.mk ((by rw [hg]; exact (below_size (by repeat (first | (with_reducible first | exact HB.out | apply below_alloc | apply pw_below_drewN | apply below_drew1) | exact HB.out))) : w.heap.size ≤ gb661)); clear HB; have HB := n0_; have BK661 := n1_; have GW661 := n2_; have GE661 := n3_; clear n0_ n1_ n2_ n3_; clear hb hbox hg; have hcz3_0 : w2.cell? ⟨gb661, 0, none⟩ = some (.slice A0_0 l0_0.length c0_0) := (blk_cell BK661.out 0).trans rfl; have hcz3_1 : w2.cell? ⟨gb661, 1, none⟩ = some (.slice A0_1 l0_1.length c0_1) := (blk_cell BK661.out 1).trans rfl; have hcz3_2 : w2.cell? ⟨gb661, 2, none⟩ = some (.slice A0_2 l0_2.length c0_2) := (blk_cell BK661.out 2).trans rfl; have hcz3_3 : w2.cell? ⟨gb661, 3, none⟩ = some (.slice A0_3 l0_3.length c0_3) := (blk_cell BK661.out 3).trans rfl; have hcz3_4 : w2.cell? ⟨gb661, 4, none⟩ = some (.slice A0_4 l0_4.length c0_4) := (blk_cell BK661.out 4).trans rfl; have hcz3_5 : w2.cell? ⟨gb661, 5, none⟩ = some (.slice A0_5 l0_5.length c0_5) := (blk_cell BK661.out 5).trans rfl; have hcz3_6 : w2.cell? ⟨gb661, 6, none⟩ = some (.slice A0_6 l0_6.length c0_6) := (blk_cell BK661.out 6).trans rfl; have hcz3_7 : w2.cell? ⟨gb661, 7, none⟩ = some (.slice A0_7 l0_7.length c0_7) := (blk_cell BK661.out 7).trans rfl; have hfz3_0 := blk_frozen BK661.out 0; have hfz3_1 := blk_frozen BK661.out 1; have hfz3_2 := blk_frozen BK661.out 2; have hfz3_3 := blk_frozen BK661.out 3; have hfz3_4 := blk_frozen BK661.out 4; have hfz3_5 := blk_frozen BK661.out 5; have hfz3_6 := blk_frozen BK661.out 6; have hfz3_7 := blk_frozen BK661.out 7))
  go_loopg [12] k (fun kq v12 w' => ∃ (x12_1 : Int), v12 = .int .i64 x12_1 ∧ Aside0 (plainsongref10_flat.l0 kq l0_0 (l0_0.length : Int) x12_1 l0_0 l0_1 l0_2 l0_3 l0_4 l0_5 l0_6 l0_7 = some r) ∧ Aside0 (kq ≤ k) ∧ Aside0 (w'.heap[gb661]? = some (.cells #[(.slice A0_0 l0_0.length c0_0), (.slice A0_1 l0_1.length c0_1), (.slice A0_2 l0_2.length c0_2), (.slice A0_3 l0_3.length c0_3), (.slice A0_4 l0_4.length c0_4), (.slice A0_5 l0_5.length c0_5), (.slice A0_6 l0_6.length c0_6), (.slice A0_7 l0_7.length c0_7)] 37 (0, 0))) ∧ Aside0 (Below w.heap.size w w'))
  case atStart => exact ⟨(0), (by first | rfl | (simp; done) | (simp [*]; done)), H', ⟨Nat.le_refl _⟩, ⟨by (with_reducible repeat (first | refine blk_drewN ?_ _ | refine blk_drew ?_ | refine blk_alloc ?_ _)); exact BK661.out⟩, ⟨by repeat (first | (with_reducible first | exact HB.out | apply below_alloc | apply pw_below_drewN | apply below_drew1 | refine below_set ?_ GE661.out) | exact HB.out)⟩⟩
  case round =>
    clear H'
    try clear c1
    try clear p2
    try clear hcz3_0
    try clear hcz3_1
    try clear hcz3_2
    try clear hcz3_3
    try clear hcz3_4
    try clear hcz3_5
    try clear hcz3_6
    try clear hcz3_7
    try clear hfz3_0
    try clear hfz3_1
    try clear hfz3_2
    try clear hfz3_3
    try clear hfz3_4
    try clear hfz3_5
    try clear hfz3_6
    try clear hfz3_7
    obtain ⟨x12_1, rfl, HA, HK1, BK661, HB⟩ := hrel
    cases gk with
    | zero => exact absurd HA.out (by simp [plainsongref10_flat.l0])
    | succ k1 =>
      have H := HA.out
      clear HA
      simp only [plainsongref10_flat.l0] at H
      by_cases c4 : x12_1 < (l0_0.length : Int)
      · rw [if_pos c4] at H
        have c4b0 : decide (x12_1 < (l0_0.length : Int)) = true := decide_eq_true c4
        clear c4
        by_cases c5 : 0 ≤ x12_1
        · rw [if_pos c5] at H
          have c5b0 : decide (0 ≤ x12_1) = true := decide_eq_true c5
          clear c5
          by_cases c6 : x12_1 < (l0_0.length : Int)
          · rw [if_pos c6] at H
            have c6b0 : decide (x12_1 < (l0_0.length : Int)) = true := decide_eq_true c6
            clear c6
            by_cases c7 : (((rd_TTy l0_0 x12_1).f1).length : Int) > 1
            · rw [if_pos c7] at H
              have c7b0 : decide (1 < (((rd_TTy l0_0 x12_1).f1).length : Int)) = true := decide_eq_true c7
              have c7b1 : decide (1 < ((rd_TTy l0_0 x12_1).f1).length) = true := decide_eq_true (by omega)
              clear c7
              obtain rfl := Option.some.inj H
              have p662 : 0 ≤ (x12_1 : Int) := of_decide_eq_true (by first | (with_reducible assumption) | assumption)
              have q662 : x12_1 < (l0_0.length : Int) := of_decide_eq_true (by first | (with_reducible assumption) | assumption)
              obtain ⟨ad662, A662_0, c662_0, A662_1, c662_1, e662, hx662_0, hx662_1, hl662_0, hi662_0, hl662_1, hi662_1⟩ := at_TTy HR0_0.out x12_1 p662 q662
              cases e662
              replace hx662_0 := (HB.out.cell (World.block_lt_of_cell? w _ hx662_0)).trans hx662_0
              replace hx662_1 := (HB.out.cell (World.block_lt_of_cell? w _ hx662_1)).trans hx662_1
              have HR662_0 := Aside0.mk hi662_0
              have HC662_0 := Aside0.mk hl662_0
              clear hi662_0 hl662_0
              have HR662_1 := Aside0.mk hi662_1
              have HC662_1 := Aside0.mk hl662_1
              clear hi662_1 hl662_1
              replace p662 := eq_true p662
              replace q662 := eq_true q662
              go_wp2_with (first | ((with_reducible refine gate_dst (N := 4) rfl ?_); refine box_event ?hg (N := 4) ?hd (cs := #[.slice none 0 0, .slice none 0 0]) (t := 40) ?hr ?_; (case hd => rfl); (case hg => rfl); (case hr => first | (go_simp; done) | (go_simp; rfl)); intro gb663 hg w8 hbox hb; have n0_ := Aside0.mk (blk_below (g := gb661) (o := .cells #[.slice (some ad662) l0_0.length c0_0, .slice A0_1 l0_1.length c0_1, .slice A0_2 l0_2.length c0_2, .slice A0_3 l0_3.length c0_3, .slice A0_4 l0_4.length c0_4, .slice A0_5 l0_5.length c0_5, .slice A0_6 l0_6.length c0_6, .slice A0_7 l0_7.length c0_7] 37 (0, 0)) (by (with_reducible repeat (first | refine blk_drewN ?_ _ | refine blk_drew ?_ | refine blk_alloc ?_ _)); exact BK661.out) hb); have n1_ := Aside0.mk (below_step (by repeat (first | (with_reducible first | exact HB.out | apply below_alloc | apply pw_below_drewN | apply below_drew1 | refine below_set ?_ GE661.out) | exact HB.out)) hb); have n2_ := Aside0.mk (hbox); have n3_ := Aside0.mk ((by rw [hg]; exact (below_size (by repeat (first | (with_reducible first | exact HB.out | apply below_alloc | apply pw_below_drewN | apply below_drew1 | refine below_set ?_ GE661.out) | exact HB.out))) : w.heap.size ≤ gb663)); have n4_ := Aside0.mk ((by rw [hg]; exact (below_size (by repeat (first | (with_reducible first | exact HB.out | apply below_alloc | apply pw_below_drewN | apply below_drew1 | refine below_set ?_ GE661.out) | exact HB.out))) : w.heap.size ≤ gb663)); have n5_ := Aside0.mk ((by rw [hg]; exact Nat.ne_of_lt (blk_lt (g := gb661) (o := .cells #[.slice (some ad662) l0_0.length c0_0, .slice A0_1 l0_1.length c0_1, .slice A0_2 l0_2.length c0_2, .slice A0_3 l0_3.length c0_3, .slice A0_4 l0_4.length c0_4, .slice A0_5 l0_5.length c0_5, .slice A0_6 l0_6.length c0_6, .slice A0_7 l0_7.length c0_7] 37 (0, 0)) (by (with_reducible repeat (first | refine blk_drewN ?_ _ | refine blk_drew ?_ | refine blk_alloc ?_ _)); exact BK661.out)) : gb661 ≠ gb663)); have n6_ := Aside0.mk ((by rw [hg]; exact Nat.ne_of_gt (blk_lt (g := gb661) (o := .cells #[.slice (some ad662) l0_0.length c0_0, .slice A0_1 l0_1.length c0_1, .slice A0_2 l0_2.length c0_2, .slice A0_3 l0_3.length c0_3, .slice A0_4 l0_4.length c0_4, .slice A0_5 l0_5.length c0_5, .slice A0_6 l0_6.length c0_6, .slice A0_7 l0_7.length c0_7] 37 (0, 0)) (by (with_reducible repeat (first | refine blk_drewN ?_ _ | refine blk_drew ?_ | refine blk_alloc ?_ _)); exact BK661.out)) : gb663 ≠ gb661)); clear BK661; clear HB; have BK661 := n0_; have HB := n1_; have BK663 := n2_; have GW663 := n3_; have GE663 := n4_; have NB661_663 := n5_; have NB663_661 := n6_; clear n0_ n1_ n2_ n3_ n4_ n5_ n6_; clear hb hbox hg; have hnb9 := NB663_661.out; have hnc9 := NB661_663.out; have hcz10_0 : w8.cell? ⟨gb663, 0, none⟩ = some (.slice none 0 0) := (blk_cell BK663.out 0).trans rfl; have hcz10_1 : w8.cell? ⟨gb663, 1, none⟩ = some (.slice none 0 0) := (blk_cell BK663.out 1).trans rfl; have hfz10_0 := blk_frozen BK663.out 0; have hfz10_1 := blk_frozen BK663.out 1))
              go_ret
              exact ⟨by first | rfl | (simp [errW_none, errW_some] <;> rfl) | (simp [*, errW_none, errW_some] <;> rfl), by repeat (first | (with_reducible first | exact HB.out | apply below_alloc | apply pw_below_drewN | apply below_drew1 | refine below_set ?_ GE661.out | refine below_set ?_ GE663.out) | exact HB.out)⟩
            · rw [if_neg c7] at H
              have c7b0 : decide (1 < (((rd_TTy l0_0 x12_1).f1).length : Int)) = false := decide_eq_false c7
              have c7b1 : decide (1 < ((rd_TTy l0_0 x12_1).f1).length) = false := decide_eq_false (by omega)
              clear c7
              have H' := Aside0.mk H
              clear H
              have p662 : 0 ≤ (x12_1 : Int) := of_decide_eq_true (by first | (with_reducible assumption) | assumption)
              have q662 : x12_1 < (l0_0.length : Int) := of_decide_eq_true (by first | (with_reducible assumption) | assumption)
              obtain ⟨ad662, A662_0, c662_0, A662_1, c662_1, e662, hx662_0, hx662_1, hl662_0, hi662_0, hl662_1, hi662_1⟩ := at_TTy HR0_0.out x12_1 p662 q662
              cases e662
              replace hx662_0 := (HB.out.cell (World.block_lt_of_cell? w _ hx662_0)).trans hx662_0
              replace hx662_1 := (HB.out.cell (World.block_lt_of_cell? w _ hx662_1)).trans hx662_1
              have HR662_0 := Aside0.mk hi662_0
              have HC662_0 := Aside0.mk hl662_0
              clear hi662_0 hl662_0
              have HR662_1 := Aside0.mk hi662_1
              have HC662_1 := Aside0.mk hl662_1
              clear hi662_1 hl662_1
              replace p662 := eq_true p662
              replace q662 := eq_true q662
              go_wp2_with (first | ((with_reducible refine gate_dst (N := 4) rfl ?_); refine box_event ?hg (N := 4) ?hd (cs := #[.slice none 0 0, .slice none 0 0]) (t := 40) ?hr ?_; (case hd => rfl); (case hg => rfl); (case hr => first | (go_simp; done) | (go_simp; rfl)); intro gb663 hg w11 hbox hb; have n0_ := Aside0.mk (blk_below (g := gb661) (o := .cells #[.slice (some ad662) l0_0.length c0_0, .slice A0_1 l0_1.length c0_1, .slice A0_2 l0_2.length c0_2, .slice A0_3 l0_3.length c0_3, .slice A0_4 l0_4.length c0_4, .slice A0_5 l0_5.length c0_5, .slice A0_6 l0_6.length c0_6, .slice A0_7 l0_7.length c0_7] 37 (0, 0)) (by (with_reducible repeat (first | refine blk_drewN ?_ _ | refine blk_drew ?_ | refine blk_alloc ?_ _)); exact BK661.out) hb); have n1_ := Aside0.mk (below_step (by repeat (first | (with_reducible first | exact HB.out | apply below_alloc | apply pw_below_drewN | apply below_drew1 | refine below_set ?_ GE661.out) | exact HB.out)) hb); have n2_ := Aside0.mk (hbox); have n3_ := Aside0.mk ((by rw [hg]; exact (below_size (by repeat (first | (with_reducible first | exact HB.out | apply below_alloc | apply pw_below_drewN | apply below_drew1 | refine below_set ?_ GE661.out) | exact HB.out))) : w.heap.size ≤ gb663)); have n4_ := Aside0.mk ((by rw [hg]; exact (below_size (by repeat (first | (with_reducible first | exact HB.out | apply below_alloc | apply pw_below_drewN | apply below_drew1 | refine below_set ?_ GE661.out) | exact HB.out))) : w.heap.size ≤ gb663)); have n5_ := Aside0.mk ((by rw [hg]; exact Nat.ne_of_lt (blk_lt (g := gb661) (o := .cells #[.slice (some ad662) l0_0.length c0_0, .slice A0_1 l0_1.length c0_1, .slice A0_2 l0_2.length c0_2, .slice A0_3 l0_3.length c0_3, .slice A0_4 l0_4.length c0_4, .slice A0_5 l0_5.length c0_5, .slice A0_6 l0_6.length c0_6, .slice A0_7 l0_7.length c0_7] 37 (0, 0)) (by (with_reducible repeat (first | refine blk_drewN ?_ _ | refine blk_drew ?_ | refine blk_alloc ?_ _)); exact BK661.out)) : gb661 ≠ gb663)); have n6_ := Aside0.mk ((by rw [hg]; exact Nat.ne_of_gt (blk_lt (g := gb661) (o := .cells #[.slice (some ad662) l0_0.length c0_0, .slice A0_1 l0_1.length c0_1, .slice A0_2 l0_2.length c0_2, .slice A0_3 l0_3.length c0_3, .slice A0_4 l0_4.length c0_4, .slice A0_5 l0_5.length c0_5, .slice A0_6 l0_6.length c0_6, .slice A0_7 l0_7.length c0_7] 37 (0, 0)) (by (with_reducible repeat (first | refine blk_drewN ?_ _ | refine blk_drew ?_ | refine blk_alloc ?_ _)); exact BK661.out)) : gb663 ≠ gb661)); clear BK661; clear HB; have BK661 := n0_; have HB := n1_; have BK663 := n2_; have GW663 := n3_; have GE663 := n4_; have NB661_663 := n5_; have NB663_661 := n6_; clear n0_ n1_ n2_ n3_ n4_ n5_ n6_; clear hb hbox hg; have hnb12 := NB663_661.out; have hnc12 := NB661_663.out; have hcz13_0 : w11.cell? ⟨gb663, 0, none⟩ = some (.slice none 0 0) := (blk_cell BK663.out 0).trans rfl; have hcz13_1 : w11.cell? ⟨gb663, 1, none⟩ = some (.slice none 0 0) := (blk_cell BK663.out 1).trans rfl; have hfz13_0 := blk_frozen BK663.out 0; have hfz13_1 := blk_frozen BK663.out 1))
              go_roundg k1
              case measure => have := HK1.out; omega
              case rel => exact ⟨(wrap64 (x12_1 + 1)), (by first | rfl | (simp; done) | (simp [*]; done)), H', ⟨by have := HK1.out; omega⟩, ⟨by (with_reducible repeat (first | refine blk_drewN ?_ _ | refine blk_drew ?_ | refine blk_alloc ?_ _)); refine blk_far ?_ NB661_663.out _; (with_reducible repeat (first | refine blk_drewN ?_ _ | refine blk_drew ?_ | refine blk_alloc ?_ _)); refine blk_far ?_ NB661_663.out _; (with_reducible repeat (first | refine blk_drewN ?_ _ | refine blk_drew ?_ | refine blk_alloc ?_ _)); exact BK661.out⟩, ⟨by repeat (first | (with_reducible first | exact HB.out | apply below_alloc | apply pw_below_drewN | apply below_drew1 | refine below_set ?_ GE661.out | refine below_set ?_ GE663.out) | exact HB.out)⟩⟩
          · rw [if_neg c6] at H
            exact absurd H (by simp)
        · rw [if_neg c5] at H
          exact absurd H (by simp)
      · rw [if_neg c4] at H
        have c4b0 : decide (x12_1 < (l0_0.length : Int)) = false := decide_eq_false c4
        clear c4
        have H' := Aside0.mk H
        clear H
        have hcz14_0 : wr.cell? ⟨gb661, 0, none⟩ = some (.slice A0_0 l0_0.length c0_0) := (blk_cell BK661.out 0).trans rfl
        have hcz14_1 : wr.cell? ⟨gb661, 1, none⟩ = some (.slice A0_1 l0_1.length c0_1) := (blk_cell BK661.out 1).trans rfl
        have hcz14_2 : wr.cell? ⟨gb661, 2, none⟩ = some (.slice A0_2 l0_2.length c0_2) := (blk_cell BK661.out 2).trans rfl
        have hcz14_3 : wr.cell? ⟨gb661, 3, none⟩ = some (.slice A0_3 l0_3.length c0_3) := (blk_cell BK661.out 3).trans rfl
        have hcz14_4 : wr.cell? ⟨gb661, 4, none⟩ = some (.slice A0_4 l0_4.length c0_4) := (blk_cell BK661.out 4).trans rfl
        have hcz14_5 : wr.cell? ⟨gb661, 5, none⟩ = some (.slice A0_5 l0_5.length c0_5) := (blk_cell BK661.out 5).trans rfl
        have hcz14_6 : wr.cell? ⟨gb661, 6, none⟩ = some (.slice A0_6 l0_6.length c0_6) := (blk_cell BK661.out 6).trans rfl
        have hcz14_7 : wr.cell? ⟨gb661, 7, none⟩ = some (.slice A0_7 l0_7.length c0_7) := (blk_cell BK661.out 7).trans rfl
        have hfz14_0 := blk_frozen BK661.out 0
        have hfz14_1 := blk_frozen BK661.out 1
        have hfz14_2 := blk_frozen BK661.out 2
        have hfz14_3 := blk_frozen BK661.out 3
        have hfz14_4 := blk_frozen BK661.out 4
        have hfz14_5 := blk_frozen BK661.out 5
        have hfz14_6 := blk_frozen BK661.out 6
        have hfz14_7 := blk_frozen BK661.out 7
        go_wp2
        go_loopg [24] k1 (fun kq v24 w' => ∃ (x24_2 : Int), v24 = .int .i64 x24_2 ∧ Aside0 (plainsongref10_flat.l1 kq l0_6 (l0_6.length : Int) x24_2 l0_0 l0_1 l0_2 l0_3 l0_4 l0_5 l0_6 l0_7 = some r) ∧ Aside0 (kq ≤ k1) ∧ Aside0 (w'.heap[gb661]? = some (.cells #[(.slice A0_0 l0_0.length c0_0), (.slice A0_1 l0_1.length c0_1), (.slice A0_2 l0_2.length c0_2), (.slice A0_3 l0_3.length c0_3), (.slice A0_4 l0_4.length c0_4), (.slice A0_5 l0_5.length c0_5), (.slice A0_6 l0_6.length c0_6), (.slice A0_7 l0_7.length c0_7)] 37 (0, 0))) ∧ Aside0 (Below w.heap.size w w'))
        case atStart => exact ⟨(0), (by first | rfl | (simp; done) | (simp [*]; done)), H', ⟨Nat.le_refl _⟩, ⟨by (with_reducible repeat (first | refine blk_drewN ?_ _ | refine blk_drew ?_ | refine blk_alloc ?_ _)); exact BK661.out⟩, ⟨by repeat (first | (with_reducible first | exact HB.out | apply below_alloc | apply pw_below_drewN | apply below_drew1 | refine below_set ?_ GE661.out) | exact HB.out)⟩⟩
        case round =>
          clear H'
          try clear c1
          try clear p2
          try clear c4
          try clear c4b0
          try clear c5
          try clear c5b0
          try clear c6
          try clear c6b0
          try clear p6
          try clear q6
          try clear hx6
          try clear c7
          try clear c7b0
          try clear c7b1
          try clear c9
          try clear c10
          try clear c12
          try clear hcz10_0
          try clear hcz10_1
          try clear hcz13_0
          try clear hcz13_1
          try clear hcz14_0
          try clear hcz14_1
          try clear hcz14_2
          try clear hcz14_3
          try clear hcz14_4
          try clear hcz14_5
          try clear hcz14_6
          try clear hcz14_7
          try clear hcz3_0
          try clear hcz3_1
          try clear hcz3_2
          try clear hcz3_3
          try clear hcz3_4
          try clear hcz3_5
          try clear hcz3_6
          try clear hcz3_7
          try clear hfz10_0
          try clear hfz10_1
          try clear hfz13_0
          try clear hfz13_1
          try clear hfz14_0
          try clear hfz14_1
          try clear hfz14_2
          try clear hfz14_3
          try clear hfz14_4
          try clear hfz14_5
          try clear hfz14_6
          try clear hfz14_7
          try clear hfz3_0
          try clear hfz3_1
          try clear hfz3_2
          try clear hfz3_3
          try clear hfz3_4
          try clear hfz3_5
          try clear hfz3_6
          try clear hfz3_7
          try clear hx662_0
          try clear hx662_1
          try clear p2
          try clear p662
          try clear q662
          obtain ⟨x24_2, rfl, HA, HK2, BK661, HB⟩ := hrel
          cases gk with
          | zero => exact absurd HA.out (by simp [plainsongref10_flat.l1])
          | succ k2 =>
            have H := HA.out
            clear HA
            simp only [plainsongref10_flat.l1] at H
            by_cases c15 : x24_2 < (l0_6.length : Int)
            · rw [if_pos c15] at H
              have c15b0 : decide (x24_2 < (l0_6.length : Int)) = true := decide_eq_true c15
              clear c15
              by_cases c16 : 0 ≤ x24_2
              · rw [if_pos c16] at H
                have c16b0 : decide (0 ≤ x24_2) = true := decide_eq_true c16
                clear c16
                by_cases c17 : x24_2 < (l0_6.length : Int)
                · rw [if_pos c17] at H
                  have c17b0 : decide (x24_2 < (l0_6.length : Int)) = true := decide_eq_true c17
                  clear c17
                  obtain ⟨bq18, hbq18⟩ : ∃ b_ : Bool, b_ = ((rd_TData l0_6 x24_2).f0) := ⟨_, rfl⟩
                  replace H : (if (bq18 = true) then (plainsongref10_flat.l1 k2 l0_6 (l0_6.length : Int) (wrap64 (x24_2 + 1)) l0_0 l0_1 l0_2 l0_3 l0_4 l0_5 l0_6 l0_7) else (some false)) = some r := by rw [← hbq18] at H; exact H
                  have Nbq18 := Aside0.mk hbq18
                  clear hbq18
                  by_cases c19 : (bq18 = true)
                  · subst c19
                    have H1 : (plainsongref10_flat.l1 k2 l0_6 (l0_6.length : Int) (wrap64 (x24_2 + 1)) l0_0 l0_1 l0_2 l0_3 l0_4 l0_5 l0_6 l0_7) = some r := by rw [if_pos rfl] at H; exact H
                    clear H
                    have H := H1
                    clear H1
                    have H' := Aside0.mk H
                    clear H
                    have p664 : 0 ≤ (x24_2 : Int) := of_decide_eq_true (by first | (with_reducible assumption) | assumption)
                    have q664 : x24_2 < (l0_6.length : Int) := of_decide_eq_true (by first | (with_reducible assumption) | assumption)
                    obtain ⟨ad664, A664_3, c664_3, e664, hx664_0, hx664_1, hx664_2, hx664_3, hl664_3, hi664_3⟩ := at_TData HR0_6.out x24_2 p664 q664
                    (try rw [← Nbq18.out] at hx664_0)
                    cases e664
                    replace hx664_0 := (HB.out.cell (World.block_lt_of_cell? w _ hx664_0)).trans hx664_0
                    replace hx664_1 := (HB.out.cell (World.block_lt_of_cell? w _ hx664_1)).trans hx664_1
                    replace hx664_2 := (HB.out.cell (World.block_lt_of_cell? w _ hx664_2)).trans hx664_2
                    replace hx664_3 := (HB.out.cell (World.block_lt_of_cell? w _ hx664_3)).trans hx664_3
                    have HR664_3 := Aside0.mk hi664_3
                    have HC664_3 := Aside0.mk hl664_3
                    clear hi664_3 hl664_3
                    replace p664 := eq_true p664
                    replace q664 := eq_true q664
                    go_wp2_with (first | ((with_reducible refine gate_dst (N := 6) rfl ?_); refine box_event ?hg (N := 6) ?hd (cs := #[.bool false, .int .i64 0, .int .i64 0, .slice none 0 0]) (t := 76) ?hr ?_; (case hd => rfl); (case hg => rfl); (case hr => first | (go_simp; done) | (go_simp; rfl)); intro gb665 hg w20 hbox hb; have n0_ := Aside0.mk (blk_below (g := gb661) (o := .cells #[.slice A0_0 l0_0.length c0_0, .slice A0_1 l0_1.length c0_1, .slice A0_2 l0_2.length c0_2, .slice A0_3 l0_3.length c0_3, .slice A0_4 l0_4.length c0_4, .slice A0_5 l0_5.length c0_5, .slice (some ad664) l0_6.length c0_6, .slice A0_7 l0_7.length c0_7] 37 (0, 0)) (by (with_reducible repeat (first | refine blk_drewN ?_ _ | refine blk_drew ?_ | refine blk_alloc ?_ _)); exact BK661.out) hb); have n1_ := Aside0.mk (below_step (by repeat (first | (with_reducible first | exact HB.out | apply below_alloc | apply pw_below_drewN | apply below_drew1 | refine below_set ?_ GE661.out) | exact HB.out)) hb); have n2_ := Aside0.mk (hbox); have n3_ := Aside0.mk ((by rw [hg]; exact (below_size (by repeat (first | (with_reducible first | exact HB.out | apply below_alloc | apply pw_below_drewN | apply below_drew1 | refine below_set ?_ GE661.out) | exact HB.out))) : w.heap.size ≤ gb665)); have n4_ := Aside0.mk ((by rw [hg]; exact (below_size (by repeat (first | (with_reducible first | exact HB.out | apply below_alloc | apply pw_below_drewN | apply below_drew1 | refine below_set ?_ GE661.out) | exact HB.out))) : w.heap.size ≤ gb665)); have n5_ := Aside0.mk ((by rw [hg]; exact Nat.ne_of_lt (blk_lt (g := gb661) (o := .cells #[.slice A0_0 l0_0.length c0_0, .slice A0_1 l0_1.length c0_1, .slice A0_2 l0_2.length c0_2, .slice A0_3 l0_3.length c0_3, .slice A0_4 l0_4.length c0_4, .slice A0_5 l0_5.length c0_5, .slice (some ad664) l0_6.length c0_6, .slice A0_7 l0_7.length c0_7] 37 (0, 0)) (by (with_reducible repeat (first | refine blk_drewN ?_ _ | refine blk_drew ?_ | refine blk_alloc ?_ _)); exact BK661.out)) : gb661 ≠ gb665)); have n6_ := Aside0.mk ((by rw [hg]; exact Nat.ne_of_gt (blk_lt (g := gb661) (o := .cells #[.slice A0_0 l0_0.length c0_0, .slice A0_1 l0_1.length c0_1, .slice A0_2 l0_2.length c0_2, .slice A0_3 l0_3.length c0_3, .slice A0_4 l0_4.length c0_4, .slice A0_5 l0_5.length c0_5, .slice (some ad664) l0_6.length c0_6, .slice A0_7 l0_7.length c0_7] 37 (0, 0)) (by (with_reducible repeat (first | refine blk_drewN ?_ _ | refine blk_drew ?_ | refine blk_alloc ?_ _)); exact BK661.out)) : gb665 ≠ gb661)); clear BK661; clear HB; have BK661 := n0_; have HB := n1_; have BK665 := n2_; have GW665 := n3_; have GE665 := n4_; have NB661_665 := n5_; have NB665_661 := n6_; clear n0_ n1_ n2_ n3_ n4_ n5_ n6_; clear hb hbox hg; have hnb21 := NB665_661.out; have hnc21 := NB661_665.out; have hcz22_0 : w20.cell? ⟨gb665, 0, none⟩ = some (.bool false) := (blk_cell BK665.out 0).trans rfl; have hcz22_1 : w20.cell? ⟨gb665, 1, none⟩ = some (.int .i64 0) := (blk_cell BK665.out 1).trans rfl; have hcz22_2 : w20.cell? ⟨gb665, 2, none⟩ = some (.int .i64 0) := (blk_cell BK665.out 2).trans rfl; have hcz22_3 : w20.cell? ⟨gb665, 3, none⟩ = some (.slice none 0 0) := (blk_cell BK665.out 3).trans rfl; have hfz22_0 := blk_frozen BK665.out 0; have hfz22_1 := blk_frozen BK665.out 1; have hfz22_2 := blk_frozen BK665.out 2; have hfz22_3 := blk_frozen BK665.out 3))
                    go_roundg k2
                    case measure => have := HK1.out; have := HK2.out; omega
                    case rel => exact ⟨(wrap64 (x24_2 + 1)), (by first | rfl | (simp; done) | (simp [*]; done)), H', ⟨by have := HK1.out; have := HK2.out; omega⟩, ⟨by (with_reducible repeat (first | refine blk_drewN ?_ _ | refine blk_drew ?_ | refine blk_alloc ?_ _)); refine blk_far ?_ NB661_665.out _; (with_reducible repeat (first | refine blk_drewN ?_ _ | refine blk_drew ?_ | refine blk_alloc ?_ _)); refine blk_far ?_ NB661_665.out _; (with_reducible repeat (first | refine blk_drewN ?_ _ | refine blk_drew ?_ | refine blk_alloc ?_ _)); refine blk_far ?_ NB661_665.out _; (with_reducible repeat (first | refine blk_drewN ?_ _ | refine blk_drew ?_ | refine blk_alloc ?_ _)); refine blk_far ?_ NB661_665.out _; (with_reducible repeat (first | refine blk_drewN ?_ _ | refine blk_drew ?_ | refine blk_alloc ?_ _)); exact BK661.out⟩, ⟨by repeat (first | (with_reducible first | exact HB.out | apply below_alloc | apply pw_below_drewN | apply below_drew1 | refine below_set ?_ GE661.out | refine below_set ?_ GE665.out) | exact HB.out)⟩⟩
                  · replace c19 := Bool.eq_false_iff.mpr c19
                    subst c19
                    have H1 : (some false) = some r := by rw [if_neg (show ¬ (false = true) by decide)] at H; exact H
                    clear H
                    have H := H1
                    clear H1
                    obtain rfl := Option.some.inj H
                    have p664 : 0 ≤ (x24_2 : Int) := of_decide_eq_true (by first | (with_reducible assumption) | assumption)
                    have q664 : x24_2 < (l0_6.length : Int) := of_decide_eq_true (by first | (with_reducible assumption) | assumption)
                    obtain ⟨ad664, A664_3, c664_3, e664, hx664_0, hx664_1, hx664_2, hx664_3, hl664_3, hi664_3⟩ := at_TData HR0_6.out x24_2 p664 q664
                    (try rw [← Nbq18.out] at hx664_0)
                    cases e664
                    replace hx664_0 := (HB.out.cell (World.block_lt_of_cell? w _ hx664_0)).trans hx664_0
                    replace hx664_1 := (HB.out.cell (World.block_lt_of_cell? w _ hx664_1)).trans hx664_1
                    replace hx664_2 := (HB.out.cell (World.block_lt_of_cell? w _ hx664_2)).trans hx664_2
                    replace hx664_3 := (HB.out.cell (World.block_lt_of_cell? w _ hx664_3)).trans hx664_3
                    have HR664_3 := Aside0.mk hi664_3
                    have HC664_3 := Aside0.mk hl664_3
                    clear hi664_3 hl664_3
                    replace p664 := eq_true p664
                    replace q664 := eq_true q664
                    go_wp2_with (first | ((with_reducible refine gate_dst (N := 6) rfl ?_); refine box_event ?hg (N := 6) ?hd (cs := #[.bool false, .int .i64 0, .int .i64 0, .slice none 0 0]) (t := 76) ?hr ?_; (case hd => rfl); (case hg => rfl); (case hr => first | (go_simp; done) | (go_simp; rfl)); intro gb665 hg w23 hbox hb; have n0_ := Aside0.mk (blk_below (g := gb661) (o := .cells #[.slice A0_0 l0_0.length c0_0, .slice A0_1 l0_1.length c0_1, .slice A0_2 l0_2.length c0_2, .slice A0_3 l0_3.length c0_3, .slice A0_4 l0_4.length c0_4, .slice A0_5 l0_5.length c0_5, .slice (some ad664) l0_6.length c0_6, .slice A0_7 l0_7.length c0_7] 37 (0, 0)) (by (with_reducible repeat (first | refine blk_drewN ?_ _ | refine blk_drew ?_ | refine blk_alloc ?_ _)); exact BK661.out) hb); have n1_ := Aside0.mk (below_step (by repeat (first | (with_reducible first | exact HB.out | apply below_alloc | apply pw_below_drewN | apply below_drew1 | refine below_set ?_ GE661.out) | exact HB.out)) hb); have n2_ := Aside0.mk (hbox); have n3_ := Aside0.mk ((by rw [hg]; exact (below_size (by repeat (first | (with_reducible first | exact HB.out | apply below_alloc | apply pw_below_drewN | apply below_drew1 | refine below_set ?_ GE661.out) | exact HB.out))) : w.heap.size ≤ gb665)); have n4_ := Aside0.mk ((by rw [hg]; exact (below_size (by repeat (first | (with_reducible first | exact HB.out | apply below_alloc | apply pw_below_drewN | apply below_drew1 | refine below_set ?_ GE661.out) | exact HB.out))) : w.heap.size ≤ gb665)); have n5_ := Aside0.mk ((by rw [hg]; exact Nat.ne_of_lt (blk_lt (g := gb661) (o := .cells #[.slice A0_0 l0_0.length c0_0, .slice A0_1 l0_1.length c0_1, .slice A0_2 l0_2.length c0_2, .slice A0_3 l0_3.length c0_3, .slice A0_4 l0_4.length c0_4, .slice A0_5 l0_5.length c0_5, .slice (some ad664) l0_6.length c0_6, .slice A0_7 l0_7.length c0_7] 37 (0, 0)) (by (with_reducible repeat (first | refine blk_drewN ?_ _ | refine blk_drew ?_ | refine blk_alloc ?_ _)); exact BK661.out)) : gb661 ≠ gb665)); have n6_ := Aside0.mk ((by rw [hg]; exact Nat.ne_of_gt (blk_lt (g := gb661) (o := .cells #[.slice A0_0 l0_0.length c0_0, .slice A0_1 l0_1.length c0_1, .slice A0_2 l0_2.length c0_2, .slice A0_3 l0_3.length c0_3, .slice A0_4 l0_4.length c0_4, .slice A0_5 l0_5.length c0_5, .slice (some ad664) l0_6.length c0_6, .slice A0_7 l0_7.length c0_7] 37 (0, 0)) (by (with_reducible repeat (first | refine blk_drewN ?_ _ | refine blk_drew ?_ | refine blk_alloc ?_ _)); exact BK661.out)) : gb665 ≠ gb661)); clear BK661; clear HB; have BK661 := n0_; have HB := n1_; have BK665 := n2_; have GW665 := n3_; have GE665 := n4_; have NB661_665 := n5_; have NB665_661 := n6_; clear n0_ n1_ n2_ n3_ n4_ n5_ n6_; clear hb hbox hg; have hnb24 := NB665_661.out; have hnc24 := NB661_665.out; have hcz25_0 : w23.cell? ⟨gb665, 0, none⟩ = some (.bool false) := (blk_cell BK665.out 0).trans rfl; have hcz25_1 : w23.cell? ⟨gb665, 1, none⟩ = some (.int .i64 0) := (blk_cell BK665.out 1).trans rfl; have hcz25_2 : w23.cell? ⟨gb665, 2, none⟩ = some (.int .i64 0) := (blk_cell BK665.out 2).trans rfl; have hcz25_3 : w23.cell? ⟨gb665, 3, none⟩ = some (.slice none 0 0) := (blk_cell BK665.out 3).trans rfl; have hfz25_0 := blk_frozen BK665.out 0; have hfz25_1 := blk_frozen BK665.out 1; have hfz25_2 := blk_frozen BK665.out 2; have hfz25_3 := blk_frozen BK665.out 3))
                    go_ret
                    exact ⟨by first | rfl | (simp [errW_none, errW_some] <;> rfl) | (simp [*, errW_none, errW_some] <;> rfl), by repeat (first | (with_reducible first | exact HB.out | apply below_alloc | apply pw_below_drewN | apply below_drew1 | refine below_set ?_ GE661.out | refine below_set ?_ GE665.out) | exact HB.out)⟩
                · rw [if_neg c17] at H
                  exact absurd H (by simp)
              · rw [if_neg c16] at H
                exact absurd H (by simp)
            · rw [if_neg c15] at H
              have c15b0 : decide (x24_2 < (l0_6.length : Int)) = false := decide_eq_false c15
              clear c15
              have H' := Aside0.mk H
              clear H
              have hcz26_0 : wr.cell? ⟨gb661, 0, none⟩ = some (.slice A0_0 l0_0.length c0_0) := (blk_cell BK661.out 0).trans rfl
              have hcz26_1 : wr.cell? ⟨gb661, 1, none⟩ = some (.slice A0_1 l0_1.length c0_1) := (blk_cell BK661.out 1).trans rfl
              have hcz26_2 : wr.cell? ⟨gb661, 2, none⟩ = some (.slice A0_2 l0_2.length c0_2) := (blk_cell BK661.out 2).trans rfl
              have hcz26_3 : wr.cell? ⟨gb661, 3, none⟩ = some (.slice A0_3 l0_3.length c0_3) := (blk_cell BK661.out 3).trans rfl
              have hcz26_4 : wr.cell? ⟨gb661, 4, none⟩ = some (.slice A0_4 l0_4.length c0_4) := (blk_cell BK661.out 4).trans rfl
              have hcz26_5 : wr.cell? ⟨gb661, 5, none⟩ = some (.slice A0_5 l0_5.length c0_5) := (blk_cell BK661.out 5).trans rfl
              have hcz26_6 : wr.cell? ⟨gb661, 6, none⟩ = some (.slice A0_6 l0_6.length c0_6) := (blk_cell BK661.out 6).trans rfl
              have hcz26_7 : wr.cell? ⟨gb661, 7, none⟩ = some (.slice A0_7 l0_7.length c0_7) := (blk_cell BK661.out 7).trans rfl
              have hfz26_0 := blk_frozen BK661.out 0
              have hfz26_1 := blk_frozen BK661.out 1
              have hfz26_2 := blk_frozen BK661.out 2
              have hfz26_3 := blk_frozen BK661.out 3
              have hfz26_4 := blk_frozen BK661.out 4
              have hfz26_5 := blk_frozen BK661.out 5
              have hfz26_6 := blk_frozen BK661.out 6
              have hfz26_7 := blk_frozen BK661.out 7
              go_wp2
              go_loopg [35] k2 (fun kq v35 w' => ∃ (x35_3 : Int), v35 = .int .i64 x35_3 ∧ Aside0 (plainsongref10_flat.l2 kq l0_5 (l0_5.length : Int) x35_3 l0_0 l0_1 l0_2 l0_3 l0_4 l0_5 l0_6 l0_7 = some r) ∧ Aside0 (kq ≤ k2) ∧ Aside0 (w'.heap[gb661]? = some (.cells #[(.slice A0_0 l0_0.length c0_0), (.slice A0_1 l0_1.length c0_1), (.slice A0_2 l0_2.length c0_2), (.slice A0_3 l0_3.length c0_3), (.slice A0_4 l0_4.length c0_4), (.slice A0_5 l0_5.length c0_5), (.slice A0_6 l0_6.length c0_6), (.slice A0_7 l0_7.length c0_7)] 37 (0, 0))) ∧ Aside0 (Below w.heap.size w w'))
              case atStart => exact ⟨(0), (by first | rfl | (simp; done) | (simp [*]; done)), H', ⟨Nat.le_refl _⟩, ⟨by (with_reducible repeat (first | refine blk_drewN ?_ _ | refine blk_drew ?_ | refine blk_alloc ?_ _)); exact BK661.out⟩, ⟨by repeat (first | (with_reducible first | exact HB.out | apply below_alloc | apply pw_below_drewN | apply below_drew1 | refine below_set ?_ GE661.out) | exact HB.out)⟩⟩
              case round =>
                clear H'
                try clear c1
                try clear q1
                try clear c2
                try clear p2
                try clear c4
                try clear c4b0
                try clear c5
                try clear c5b0
                try clear c6
                try clear c6b0
                try clear p6
                try clear q6
                try clear hx6
                try clear c7
                try clear c7b0
                try clear c7b1
                try clear c9
                try clear c10
                try clear c12
                try clear c15
                try clear c15b0
                try clear c16
                try clear c16b0
                try clear c17
                try clear c17b0
                try clear q18
                try clear c19
                try clear c21
                try clear c24
                try clear hcz10_0
                try clear hcz10_1
                try clear hcz13_0
                try clear hcz13_1
                try clear hcz14_0
                try clear hcz14_1
                try clear hcz14_2
                try clear hcz14_3
                try clear hcz14_4
                try clear hcz14_5
                try clear hcz14_6
                try clear hcz14_7
                try clear hcz22_0
                try clear hcz22_1
                try clear hcz22_2
                try clear hcz22_3
                try clear hcz25_0
                try clear hcz25_1
                try clear hcz25_2
                try clear hcz25_3
                try clear hcz26_0
                try clear hcz26_1
                try clear hcz26_2
                try clear hcz26_3
                try clear hcz26_4
                try clear hcz26_5
                try clear hcz26_6
                try clear hcz26_7
                try clear hcz3_0
                try clear hcz3_1
                try clear hcz3_2
                try clear hcz3_3
                try clear hcz3_4
                try clear hcz3_5
                try clear hcz3_6
                try clear hcz3_7
                try clear hfz10_0
                try clear hfz10_1
                try clear hfz13_0
                try clear hfz13_1
                try clear hfz14_0
                try clear hfz14_1
                try clear hfz14_2
                try clear hfz14_3
                try clear hfz14_4
                try clear hfz14_5
                try clear hfz14_6
                try clear hfz14_7
                try clear hfz22_0
                try clear hfz22_1
                try clear hfz22_2
                try clear hfz22_3
                try clear hfz25_0
                try clear hfz25_1
                try clear hfz25_2
                try clear hfz25_3
                try clear hfz26_0
                try clear hfz26_1
                try clear hfz26_2
                try clear hfz26_3
                try clear hfz26_4
                try clear hfz26_5
                try clear hfz26_6
                try clear hfz26_7
                try clear hfz3_0
                try clear hfz3_1
                try clear hfz3_2
                try clear hfz3_3
                try clear hfz3_4
                try clear hfz3_5
                try clear hfz3_6
                try clear hfz3_7
                try clear hx662_0
                try clear hx662_1
                try clear hx664_0
                try clear hx664_1
                try clear hx664_2
                try clear hx664_3
                try clear p2
                try clear p6
                try clear p662
                try clear p664
                try clear q6
                try clear q662
                try clear q664
                obtain ⟨x35_3, rfl, HA, HK3, BK661, HB⟩ := hrel
                cases gk with
                | zero => exact absurd HA.out (by simp [plainsongref10_flat.l2])
                | succ k3 =>
                  have H := HA.out
                  clear HA
                  simp only [plainsongref10_flat.l2] at H
                  by_cases c27 : x35_3 < (l0_5.length : Int)
                  · rw [if_pos c27] at H
                    have c27b0 : decide (x35_3 < (l0_5.length : Int)) = true := decide_eq_true c27
                    clear c27
                    by_cases c28 : 0 ≤ x35_3
                    · rw [if_pos c28] at H
                      have c28b0 : decide (0 ≤ x35_3) = true := decide_eq_true c28
                      clear c28
                      by_cases c29 : x35_3 < (l0_5.length : Int)
                      · rw [if_pos c29] at H
                        have c29b0 : decide (x35_3 < (l0_5.length : Int)) = true := decide_eq_true c29
                        clear c29
                        by_cases c30 : ((rd_TExp l0_5 x35_3).f1) = 3
                        · rw [if_pos c30] at H
                          have c30b0 : (((rd_TExp l0_5 x35_3).f1) == 3) = true := beq_iff_eq.mpr c30
                          have c30b1 : (((rd_TExp l0_5 x35_3).f1) != 3) = false := bne_eq_false_iff_eq.mpr c30
                          clear c30
                          by_cases c31 : 0 ≤ ((rd_TExp l0_5 x35_3).f2)
                          · rw [if_pos c31] at H
                            have c31b0 : decide (0 ≤ ((rd_TExp l0_5 x35_3).f2)) = true := decide_eq_true c31
                            clear c31
                            by_cases c32 : ((rd_TExp l0_5 x35_3).f2) < (l0_4.length : Int)
                            · rw [if_pos c32] at H
                              have c32b0 : decide (((rd_TExp l0_5 x35_3).f2) < (l0_4.length : Int)) = true := decide_eq_true c32
                              clear c32
                              obtain ⟨bq33, hbq33⟩ : ∃ b_ : Bool, b_ = ((rd_TGlob l0_4 ((rd_TExp l0_5 x35_3).f2)).f1) := ⟨_, rfl⟩
                              replace H : (if bq33 = true then (some false) else (plainsongref10_flat.l2 k3 l0_5 (l0_5.length : Int) (wrap64 (x35_3 + 1)) l0_0 l0_1 l0_2 l0_3 l0_4 l0_5 l0_6 l0_7)) = some r := by rw [← hbq33] at H; exact H
                              have Nbq33 := Aside0.mk hbq33
                              clear hbq33
                              by_cases c34 : bq33 = true
                              · subst c34
                                have H1 : (some false) = some r := by rw [if_pos rfl] at H; exact H
                                clear H
                                have H := H1
                                clear H1
                                obtain rfl := Option.some.inj H
                                have p666 : 0 ≤ (x35_3 : Int) := of_decide_eq_true (by first | (with_reducible assumption) | assumption)
                                have q666 : x35_3 < (l0_5.length : Int) := of_decide_eq_true (by first | (with_reducible assumption) | assumption)
                                obtain ⟨ad666, e666, hx666_0, hx666_1, hx666_2⟩ := at_TExp HR0_5.out x35_3 p666 q666
                                cases e666
                                replace hx666_0 := (HB.out.cell (World.block_lt_of_cell? w _ hx666_0)).trans hx666_0
                                replace hx666_1 := (HB.out.cell (World.block_lt_of_cell? w _ hx666_1)).trans hx666_1
                                replace hx666_2 := (HB.out.cell (World.block_lt_of_cell? w _ hx666_2)).trans hx666_2
                                replace p666 := eq_true p666
                                replace q666 := eq_true q666
                                go_wp2_with (first | ((with_reducible refine gate_dst (N := 8) rfl ?_); refine box_event ?hg (N := 8) ?hd (cs := #[.string (⟨#[]⟩ : ByteArray), .int .i64 0, .int .i64 0]) (t := 86) ?hr ?_; (case hd => rfl); (case hg => rfl); (case hr => first | (go_simp; done) | (go_simp; rfl)); intro gb667 hg w35 hbox hb; have n0_ := Aside0.mk (blk_below (g := gb661) (o := .cells #[.slice A0_0 l0_0.length c0_0, .slice A0_1 l0_1.length c0_1, .slice A0_2 l0_2.length c0_2, .slice A0_3 l0_3.length c0_3, .slice A0_4 l0_4.length c0_4, .slice (some ad666) l0_5.length c0_5, .slice A0_6 l0_6.length c0_6, .slice A0_7 l0_7.length c0_7] 37 (0, 0)) (by (with_reducible repeat (first | refine blk_drewN ?_ _ | refine blk_drew ?_ | refine blk_alloc ?_ _)); exact BK661.out) hb); have n1_ := Aside0.mk (below_step (by repeat (first | (with_reducible first | exact HB.out | apply below_alloc | apply pw_below_drewN | apply below_drew1 | refine below_set ?_ GE661.out) | exact HB.out)) hb); have n2_ := Aside0.mk (hbox); have n3_ := Aside0.mk ((by rw [hg]; exact (below_size (by repeat (first | (with_reducible first | exact HB.out | apply below_alloc | apply pw_below_drewN | apply below_drew1 | refine below_set ?_ GE661.out) | exact HB.out))) : w.heap.size ≤ gb667)); have n4_ := Aside0.mk ((by rw [hg]; exact (below_size (by repeat (first | (with_reducible first | exact HB.out | apply below_alloc | apply pw_below_drewN | apply below_drew1 | refine below_set ?_ GE661.out) | exact HB.out))) : w.heap.size ≤ gb667)); have n5_ := Aside0.mk ((by rw [hg]; exact Nat.ne_of_lt (blk_lt (g := gb661) (o := .cells #[.slice A0_0 l0_0.length c0_0, .slice A0_1 l0_1.length c0_1, .slice A0_2 l0_2.length c0_2, .slice A0_3 l0_3.length c0_3, .slice A0_4 l0_4.length c0_4, .slice (some ad666) l0_5.length c0_5, .slice A0_6 l0_6.length c0_6, .slice A0_7 l0_7.length c0_7] 37 (0, 0)) (by (with_reducible repeat (first | refine blk_drewN ?_ _ | refine blk_drew ?_ | refine blk_alloc ?_ _)); exact BK661.out)) : gb661 ≠ gb667)); have n6_ := Aside0.mk ((by rw [hg]; exact Nat.ne_of_gt (blk_lt (g := gb661) (o := .cells #[.slice A0_0 l0_0.length c0_0, .slice A0_1 l0_1.length c0_1, .slice A0_2 l0_2.length c0_2, .slice A0_3 l0_3.length c0_3, .slice A0_4 l0_4.length c0_4, .slice (some ad666) l0_5.length c0_5, .slice A0_6 l0_6.length c0_6, .slice A0_7 l0_7.length c0_7] 37 (0, 0)) (by (with_reducible repeat (first | refine blk_drewN ?_ _ | refine blk_drew ?_ | refine blk_alloc ?_ _)); exact BK661.out)) : gb667 ≠ gb661)); clear BK661; clear HB; have BK661 := n0_; have HB := n1_; have BK667 := n2_; have GW667 := n3_; have GE667 := n4_; have NB661_667 := n5_; have NB667_661 := n6_; clear n0_ n1_ n2_ n3_ n4_ n5_ n6_; clear hb hbox hg; have hnb36 := NB667_661.out; have hnc36 := NB661_667.out; have hcz37_0 : w35.cell? ⟨gb667, 0, none⟩ = some (.string (⟨#[]⟩ : ByteArray)) := (blk_cell BK667.out 0).trans rfl; have hcz37_1 : w35.cell? ⟨gb667, 1, none⟩ = some (.int .i64 0) := (blk_cell BK667.out 1).trans rfl; have hcz37_2 : w35.cell? ⟨gb667, 2, none⟩ = some (.int .i64 0) := (blk_cell BK667.out 2).trans rfl; have hfz37_0 := blk_frozen BK667.out 0; have hfz37_1 := blk_frozen BK667.out 1; have hfz37_2 := blk_frozen BK667.out 2; have hcz38_0 : w35.cell? ⟨gb661, 0, none⟩ = some (.slice A0_0 l0_0.length c0_0) := (blk_cell BK661.out 0).trans rfl; have hcz38_1 : w35.cell? ⟨gb661, 1, none⟩ = some (.slice A0_1 l0_1.length c0_1) := (blk_cell BK661.out 1).trans rfl; have hcz38_2 : w35.cell? ⟨gb661, 2, none⟩ = some (.slice A0_2 l0_2.length c0_2) := (blk_cell BK661.out 2).trans rfl; have hcz38_3 : w35.cell? ⟨gb661, 3, none⟩ = some (.slice A0_3 l0_3.length c0_3) := (blk_cell BK661.out 3).trans rfl; have hcz38_4 : w35.cell? ⟨gb661, 4, none⟩ = some (.slice A0_4 l0_4.length c0_4) := (blk_cell BK661.out 4).trans rfl; have hcz38_5 : w35.cell? ⟨gb661, 5, none⟩ = some (.slice (some ad666) l0_5.length c0_5) := (blk_cell BK661.out 5).trans rfl; have hcz38_6 : w35.cell? ⟨gb661, 6, none⟩ = some (.slice A0_6 l0_6.length c0_6) := (blk_cell BK661.out 6).trans rfl; have hcz38_7 : w35.cell? ⟨gb661, 7, none⟩ = some (.slice A0_7 l0_7.length c0_7) := (blk_cell BK661.out 7).trans rfl; have hfz38_0 := blk_frozen BK661.out 0; have hfz38_1 := blk_frozen BK661.out 1; have hfz38_2 := blk_frozen BK661.out 2; have hfz38_3 := blk_frozen BK661.out 3; have hfz38_4 := blk_frozen BK661.out 4; have hfz38_5 := blk_frozen BK661.out 5; have hfz38_6 := blk_frozen BK661.out 6; have hfz38_7 := blk_frozen BK661.out 7; have p668 : 0 ≤ (((rd_TExp l0_5 x35_3).f2) : Int) := of_decide_eq_true (by first | (with_reducible assumption) | assumption); have q668 : ((rd_TExp l0_5 x35_3).f2) < (l0_4.length : Int) := of_decide_eq_true (by first | (with_reducible assumption) | assumption); obtain ⟨ad668, e668, hx668_0, hx668_1, hx668_2⟩ := at_TGlob HR0_4.out ((rd_TExp l0_5 x35_3).f2) p668 q668; (try rw [← Nbq33.out] at hx668_1); cases e668; have hn668_0 : ad668.block ≠ gb667 := Nat.ne_of_lt (Nat.lt_of_lt_of_le (by have := World.block_lt_of_cell? _ _ hx668_0; first | rwa [add_block] at this | exact this) GW667.out); have hn668_1 : ad668.block ≠ gb667 := Nat.ne_of_lt (Nat.lt_of_lt_of_le (by have := World.block_lt_of_cell? _ _ hx668_0; first | rwa [add_block] at this | exact this) GW667.out); have hn668_2 : ad668.block ≠ gb667 := Nat.ne_of_lt (Nat.lt_of_lt_of_le (by have := World.block_lt_of_cell? _ _ hx668_0; first | rwa [add_block] at this | exact this) GW667.out); replace hx668_0 := (HB.out.cell (World.block_lt_of_cell? w _ hx668_0)).trans hx668_0; replace hx668_1 := (HB.out.cell (World.block_lt_of_cell? w _ hx668_1)).trans hx668_1; replace hx668_2 := (HB.out.cell (World.block_lt_of_cell? w _ hx668_2)).trans hx668_2; replace hx668_0 := (cell_far (p := ⟨gb667, 0, none⟩) (by first | (rw [add_block]; exact hn668_0) | (show (Addr.add _ _).block ≠ _; rw [add_block]; exact hn668_0) | exact hn668_0) (.string ((rd_TExp l0_5 x35_3).f0))).trans hx668_0; replace hx668_1 := (cell_far (p := ⟨gb667, 0, none⟩) (by first | (rw [add_block]; exact hn668_0) | (show (Addr.add _ _).block ≠ _; rw [add_block]; exact hn668_0) | exact hn668_0) (.string ((rd_TExp l0_5 x35_3).f0))).trans hx668_1; replace hx668_2 := (cell_far (p := ⟨gb667, 0, none⟩) (by first | (rw [add_block]; exact hn668_0) | (show (Addr.add _ _).block ≠ _; rw [add_block]; exact hn668_0) | exact hn668_0) (.string ((rd_TExp l0_5 x35_3).f0))).trans hx668_2; replace hx668_0 := (cell_far (p := ⟨gb667, 1, none⟩) (by first | (rw [add_block]; exact hn668_1) | (show (Addr.add _ _).block ≠ _; rw [add_block]; exact hn668_1) | exact hn668_1) (.int .i64 ((rd_TExp l0_5 x35_3).f1))).trans hx668_0; replace hx668_1 := (cell_far (p := ⟨gb667, 1, none⟩) (by first | (rw [add_block]; exact hn668_1) | (show (Addr.add _ _).block ≠ _; rw [add_block]; exact hn668_1) | exact hn668_1) (.int .i64 ((rd_TExp l0_5 x35_3).f1))).trans hx668_1; replace hx668_2 := (cell_far (p := ⟨gb667, 1, none⟩) (by first | (rw [add_block]; exact hn668_1) | (show (Addr.add _ _).block ≠ _; rw [add_block]; exact hn668_1) | exact hn668_1) (.int .i64 ((rd_TExp l0_5 x35_3).f1))).trans hx668_2; replace hx668_0 := (cell_far (p := ⟨gb667, 2, none⟩) (by first | (rw [add_block]; exact hn668_2) | (show (Addr.add _ _).block ≠ _; rw [add_block]; exact hn668_2) | exact hn668_2) (.int .i64 ((rd_TExp l0_5 x35_3).f2))).trans hx668_0; replace hx668_1 := (cell_far (p := ⟨gb667, 2, none⟩) (by first | (rw [add_block]; exact hn668_2) | (show (Addr.add _ _).block ≠ _; rw [add_block]; exact hn668_2) | exact hn668_2) (.int .i64 ((rd_TExp l0_5 x35_3).f2))).trans hx668_1; replace hx668_2 := (cell_far (p := ⟨gb667, 2, none⟩) (by first | (rw [add_block]; exact hn668_2) | (show (Addr.add _ _).block ≠ _; rw [add_block]; exact hn668_2) | exact hn668_2) (.int .i64 ((rd_TExp l0_5 x35_3).f2))).trans hx668_2; clear hn668_0; clear hn668_1; clear hn668_2; replace p668 := eq_true p668; replace q668 := eq_true q668))
                                go_ret
                                exact ⟨by first | rfl | (simp [errW_none, errW_some] <;> rfl) | (simp [*, errW_none, errW_some] <;> rfl), by repeat (first | (with_reducible first | exact HB.out | apply below_alloc | apply pw_below_drewN | apply below_drew1 | refine below_set ?_ GE661.out | refine below_set ?_ GE667.out) | exact HB.out)⟩
                              · replace c34 := Bool.eq_false_iff.mpr c34
                                subst c34
                                have H1 : (plainsongref10_flat.l2 k3 l0_5 (l0_5.length : Int) (wrap64 (x35_3 + 1)) l0_0 l0_1 l0_2 l0_3 l0_4 l0_5 l0_6 l0_7) = some r := by rw [if_neg (show ¬ (false = true) by decide)] at H; exact H
                                clear H
                                have H := H1
                                clear H1
                                have H' := Aside0.mk H
                                clear H
                                have p666 : 0 ≤ (x35_3 : Int) := of_decide_eq_true (by first | (with_reducible assumption) | assumption)
                                have q666 : x35_3 < (l0_5.length : Int) := of_decide_eq_true (by first | (with_reducible assumption) | assumption)
                                obtain ⟨ad666, e666, hx666_0, hx666_1, hx666_2⟩ := at_TExp HR0_5.out x35_3 p666 q666
                                cases e666
                                replace hx666_0 := (HB.out.cell (World.block_lt_of_cell? w _ hx666_0)).trans hx666_0
                                replace hx666_1 := (HB.out.cell (World.block_lt_of_cell? w _ hx666_1)).trans hx666_1
                                replace hx666_2 := (HB.out.cell (World.block_lt_of_cell? w _ hx666_2)).trans hx666_2
                                replace p666 := eq_true p666
                                replace q666 := eq_true q666
                                go_wp2_with (first | ((with_reducible refine gate_dst (N := 8) rfl ?_); refine box_event ?hg (N := 8) ?hd (cs := #[.string (⟨#[]⟩ : ByteArray), .int .i64 0, .int .i64 0]) (t := 86) ?hr ?_; (case hd => rfl); (case hg => rfl); (case hr => first | (go_simp; done) | (go_simp; rfl)); intro gb667 hg w39 hbox hb; have n0_ := Aside0.mk (blk_below (g := gb661) (o := .cells #[.slice A0_0 l0_0.length c0_0, .slice A0_1 l0_1.length c0_1, .slice A0_2 l0_2.length c0_2, .slice A0_3 l0_3.length c0_3, .slice A0_4 l0_4.length c0_4, .slice (some ad666) l0_5.length c0_5, .slice A0_6 l0_6.length c0_6, .slice A0_7 l0_7.length c0_7] 37 (0, 0)) (by (with_reducible repeat (first | refine blk_drewN ?_ _ | refine blk_drew ?_ | refine blk_alloc ?_ _)); exact BK661.out) hb); have n1_ := Aside0.mk (below_step (by repeat (first | (with_reducible first | exact HB.out | apply below_alloc | apply pw_below_drewN | apply below_drew1 | refine below_set ?_ GE661.out) | exact HB.out)) hb); have n2_ := Aside0.mk (hbox); have n3_ := Aside0.mk ((by rw [hg]; exact (below_size (by repeat (first | (with_reducible first | exact HB.out | apply below_alloc | apply pw_below_drewN | apply below_drew1 | refine below_set ?_ GE661.out) | exact HB.out))) : w.heap.size ≤ gb667)); have n4_ := Aside0.mk ((by rw [hg]; exact (below_size (by repeat (first | (with_reducible first | exact HB.out | apply below_alloc | apply pw_below_drewN | apply below_drew1 | refine below_set ?_ GE661.out) | exact HB.out))) : w.heap.size ≤ gb667)); have n5_ := Aside0.mk ((by rw [hg]; exact Nat.ne_of_lt (blk_lt (g := gb661) (o := .cells #[.slice A0_0 l0_0.length c0_0, .slice A0_1 l0_1.length c0_1, .slice A0_2 l0_2.length c0_2, .slice A0_3 l0_3.length c0_3, .slice A0_4 l0_4.length c0_4, .slice (some ad666) l0_5.length c0_5, .slice A0_6 l0_6.length c0_6, .slice A0_7 l0_7.length c0_7] 37 (0, 0)) (by (with_reducible repeat (first | refine blk_drewN ?_ _ | refine blk_drew ?_ | refine blk_alloc ?_ _)); exact BK661.out)) : gb661 ≠ gb667)); have n6_ := Aside0.mk ((by rw [hg]; exact Nat.ne_of_gt (blk_lt (g := gb661) (o := .cells #[.slice A0_0 l0_0.length c0_0, .slice A0_1 l0_1.length c0_1, .slice A0_2 l0_2.length c0_2, .slice A0_3 l0_3.length c0_3, .slice A0_4 l0_4.length c0_4, .slice (some ad666) l0_5.length c0_5, .slice A0_6 l0_6.length c0_6, .slice A0_7 l0_7.length c0_7] 37 (0, 0)) (by (with_reducible repeat (first | refine blk_drewN ?_ _ | refine blk_drew ?_ | refine blk_alloc ?_ _)); exact BK661.out)) : gb667 ≠ gb661)); clear BK661; clear HB; have BK661 := n0_; have HB := n1_; have BK667 := n2_; have GW667 := n3_; have GE667 := n4_; have NB661_667 := n5_; have NB667_661 := n6_; clear n0_ n1_ n2_ n3_ n4_ n5_ n6_; clear hb hbox hg; have hnb40 := NB667_661.out; have hnc40 := NB661_667.out; have hcz41_0 : w39.cell? ⟨gb667, 0, none⟩ = some (.string (⟨#[]⟩ : ByteArray)) := (blk_cell BK667.out 0).trans rfl; have hcz41_1 : w39.cell? ⟨gb667, 1, none⟩ = some (.int .i64 0) := (blk_cell BK667.out 1).trans rfl; have hcz41_2 : w39.cell? ⟨gb667, 2, none⟩ = some (.int .i64 0) := (blk_cell BK667.out 2).trans rfl; have hfz41_0 := blk_frozen BK667.out 0; have hfz41_1 := blk_frozen BK667.out 1; have hfz41_2 := blk_frozen BK667.out 2; have hcz42_0 : w39.cell? ⟨gb661, 0, none⟩ = some (.slice A0_0 l0_0.length c0_0) := (blk_cell BK661.out 0).trans rfl; have hcz42_1 : w39.cell? ⟨gb661, 1, none⟩ = some (.slice A0_1 l0_1.length c0_1) := (blk_cell BK661.out 1).trans rfl; have hcz42_2 : w39.cell? ⟨gb661, 2, none⟩ = some (.slice A0_2 l0_2.length c0_2) := (blk_cell BK661.out 2).trans rfl; have hcz42_3 : w39.cell? ⟨gb661, 3, none⟩ = some (.slice A0_3 l0_3.length c0_3) := (blk_cell BK661.out 3).trans rfl; have hcz42_4 : w39.cell? ⟨gb661, 4, none⟩ = some (.slice A0_4 l0_4.length c0_4) := (blk_cell BK661.out 4).trans rfl; have hcz42_5 : w39.cell? ⟨gb661, 5, none⟩ = some (.slice (some ad666) l0_5.length c0_5) := (blk_cell BK661.out 5).trans rfl; have hcz42_6 : w39.cell? ⟨gb661, 6, none⟩ = some (.slice A0_6 l0_6.length c0_6) := (blk_cell BK661.out 6).trans rfl; have hcz42_7 : w39.cell? ⟨gb661, 7, none⟩ = some (.slice A0_7 l0_7.length c0_7) := (blk_cell BK661.out 7).trans rfl; have hfz42_0 := blk_frozen BK661.out 0; have hfz42_1 := blk_frozen BK661.out 1; have hfz42_2 := blk_frozen BK661.out 2; have hfz42_3 := blk_frozen BK661.out 3; have hfz42_4 := blk_frozen BK661.out 4; have hfz42_5 := blk_frozen BK661.out 5; have hfz42_6 := blk_frozen BK661.out 6; have hfz42_7 := blk_frozen BK661.out 7; have p668 : 0 ≤ (((rd_TExp l0_5 x35_3).f2) : Int) := of_decide_eq_true (by first | (with_reducible assumption) | assumption); have q668 : ((rd_TExp l0_5 x35_3).f2) < (l0_4.length : Int) := of_decide_eq_true (by first | (with_reducible assumption) | assumption); obtain ⟨ad668, e668, hx668_0, hx668_1, hx668_2⟩ := at_TGlob HR0_4.out ((rd_TExp l0_5 x35_3).f2) p668 q668; (try rw [← Nbq33.out] at hx668_1); cases e668; have hn668_0 : ad668.block ≠ gb667 := Nat.ne_of_lt (Nat.lt_of_lt_of_le (by have := World.block_lt_of_cell? _ _ hx668_0; first | rwa [add_block] at this | exact this) GW667.out); have hn668_1 : ad668.block ≠ gb667 := Nat.ne_of_lt (Nat.lt_of_lt_of_le (by have := World.block_lt_of_cell? _ _ hx668_0; first | rwa [add_block] at this | exact this) GW667.out); have hn668_2 : ad668.block ≠ gb667 := Nat.ne_of_lt (Nat.lt_of_lt_of_le (by have := World.block_lt_of_cell? _ _ hx668_0; first | rwa [add_block] at this | exact this) GW667.out); replace hx668_0 := (HB.out.cell (World.block_lt_of_cell? w _ hx668_0)).trans hx668_0; replace hx668_1 := (HB.out.cell (World.block_lt_of_cell? w _ hx668_1)).trans hx668_1; replace hx668_2 := (HB.out.cell (World.block_lt_of_cell? w _ hx668_2)).trans hx668_2; replace hx668_0 := (cell_far (p := ⟨gb667, 0, none⟩) (by first | (rw [add_block]; exact hn668_0) | (show (Addr.add _ _).block ≠ _; rw [add_block]; exact hn668_0) | exact hn668_0) (.string ((rd_TExp l0_5 x35_3).f0))).trans hx668_0; replace hx668_1 := (cell_far (p := ⟨gb667, 0, none⟩) (by first | (rw [add_block]; exact hn668_0) | (show (Addr.add _ _).block ≠ _; rw [add_block]; exact hn668_0) | exact hn668_0) (.string ((rd_TExp l0_5 x35_3).f0))).trans hx668_1; replace hx668_2 := (cell_far (p := ⟨gb667, 0, none⟩) (by first | (rw [add_block]; exact hn668_0) | (show (Addr.add _ _).block ≠ _; rw [add_block]; exact hn668_0) | exact hn668_0) (.string ((rd_TExp l0_5 x35_3).f0))).trans hx668_2; replace hx668_0 := (cell_far (p := ⟨gb667, 1, none⟩) (by first | (rw [add_block]; exact hn668_1) | (show (Addr.add _ _).block ≠ _; rw [add_block]; exact hn668_1) | exact hn668_1) (.int .i64 ((rd_TExp l0_5 x35_3).f1))).trans hx668_0; replace hx668_1 := (cell_far (p := ⟨gb667, 1, none⟩) (by first | (rw [add_block]; exact hn668_1) | (show (Addr.add _ _).block ≠ _; rw [add_block]; exact hn668_1) | exact hn668_1) (.int .i64 ((rd_TExp l0_5 x35_3).f1))).trans hx668_1; replace hx668_2 := (cell_far (p := ⟨gb667, 1, none⟩) (by first | (rw [add_block]; exact hn668_1) | (show (Addr.add _ _).block ≠ _; rw [add_block]; exact hn668_1) | exact hn668_1) (.int .i64 ((rd_TExp l0_5 x35_3).f1))).trans hx668_2; replace hx668_0 := (cell_far (p := ⟨gb667, 2, none⟩) (by first | (rw [add_block]; exact hn668_2) | (show (Addr.add _ _).block ≠ _; rw [add_block]; exact hn668_2) | exact hn668_2) (.int .i64 ((rd_TExp l0_5 x35_3).f2))).trans hx668_0; replace hx668_1 := (cell_far (p := ⟨gb667, 2, none⟩) (by first | (rw [add_block]; exact hn668_2) | (show (Addr.add _ _).block ≠ _; rw [add_block]; exact hn668_2) | exact hn668_2) (.int .i64 ((rd_TExp l0_5 x35_3).f2))).trans hx668_1; replace hx668_2 := (cell_far (p := ⟨gb667, 2, none⟩) (by first | (rw [add_block]; exact hn668_2) | (show (Addr.add _ _).block ≠ _; rw [add_block]; exact hn668_2) | exact hn668_2) (.int .i64 ((rd_TExp l0_5 x35_3).f2))).trans hx668_2; clear hn668_0; clear hn668_1; clear hn668_2; replace p668 := eq_true p668; replace q668 := eq_true q668))
                                go_roundg k3
                                case measure => have := HK1.out; have := HK2.out; have := HK3.out; omega
                                case rel => exact ⟨(wrap64 (x35_3 + 1)), (by first | rfl | (simp; done) | (simp [*]; done)), H', ⟨by have := HK1.out; have := HK2.out; have := HK3.out; omega⟩, ⟨by (with_reducible repeat (first | refine blk_drewN ?_ _ | refine blk_drew ?_ | refine blk_alloc ?_ _)); refine blk_far ?_ NB661_667.out _; (with_reducible repeat (first | refine blk_drewN ?_ _ | refine blk_drew ?_ | refine blk_alloc ?_ _)); refine blk_far ?_ NB661_667.out _; (with_reducible repeat (first | refine blk_drewN ?_ _ | refine blk_drew ?_ | refine blk_alloc ?_ _)); refine blk_far ?_ NB661_667.out _; (with_reducible repeat (first | refine blk_drewN ?_ _ | refine blk_drew ?_ | refine blk_alloc ?_ _)); exact BK661.out⟩, ⟨by repeat (first | (with_reducible first | exact HB.out | apply below_alloc | apply pw_below_drewN | apply below_drew1 | refine below_set ?_ GE661.out | refine below_set ?_ GE667.out) | exact HB.out)⟩⟩
                            · rw [if_neg c32] at H
                              exact absurd H (by simp)
                          · rw [if_neg c31] at H
                            exact absurd H (by simp)
                        · rw [if_neg c30] at H
                          have c30b0 : (((rd_TExp l0_5 x35_3).f1) == 3) = false := beq_eq_false_iff_ne.mpr c30
                          have c30b1 : (((rd_TExp l0_5 x35_3).f1) != 3) = true := bne_iff_ne.mpr c30
                          have H' := Aside0.mk H
                          clear H
                          have p666 : 0 ≤ (x35_3 : Int) := of_decide_eq_true (by first | (with_reducible assumption) | assumption)
                          have q666 : x35_3 < (l0_5.length : Int) := of_decide_eq_true (by first | (with_reducible assumption) | assumption)
                          obtain ⟨ad666, e666, hx666_0, hx666_1, hx666_2⟩ := at_TExp HR0_5.out x35_3 p666 q666
                          cases e666
                          replace hx666_0 := (HB.out.cell (World.block_lt_of_cell? w _ hx666_0)).trans hx666_0
                          replace hx666_1 := (HB.out.cell (World.block_lt_of_cell? w _ hx666_1)).trans hx666_1
                          replace hx666_2 := (HB.out.cell (World.block_lt_of_cell? w _ hx666_2)).trans hx666_2
                          replace p666 := eq_true p666
                          replace q666 := eq_true q666
                          go_wp2_with (first | ((with_reducible refine gate_dst (N := 8) rfl ?_); refine box_event ?hg (N := 8) ?hd (cs := #[.string (⟨#[]⟩ : ByteArray), .int .i64 0, .int .i64 0]) (t := 86) ?hr ?_; (case hd => rfl); (case hg => rfl); (case hr => first | (go_simp; done) | (go_simp; rfl)); intro gb667 hg w43 hbox hb; have n0_ := Aside0.mk (blk_below (g := gb661) (o := .cells #[.slice A0_0 l0_0.length c0_0, .slice A0_1 l0_1.length c0_1, .slice A0_2 l0_2.length c0_2, .slice A0_3 l0_3.length c0_3, .slice A0_4 l0_4.length c0_4, .slice (some ad666) l0_5.length c0_5, .slice A0_6 l0_6.length c0_6, .slice A0_7 l0_7.length c0_7] 37 (0, 0)) (by (with_reducible repeat (first | refine blk_drewN ?_ _ | refine blk_drew ?_ | refine blk_alloc ?_ _)); exact BK661.out) hb); have n1_ := Aside0.mk (below_step (by repeat (first | (with_reducible first | exact HB.out | apply below_alloc | apply pw_below_drewN | apply below_drew1 | refine below_set ?_ GE661.out) | exact HB.out)) hb); have n2_ := Aside0.mk (hbox); have n3_ := Aside0.mk ((by rw [hg]; exact (below_size (by repeat (first | (with_reducible first | exact HB.out | apply below_alloc | apply pw_below_drewN | apply below_drew1 | refine below_set ?_ GE661.out) | exact HB.out))) : w.heap.size ≤ gb667)); have n4_ := Aside0.mk ((by rw [hg]; exact (below_size (by repeat (first | (with_reducible first | exact HB.out | apply below_alloc | apply pw_below_drewN | apply below_drew1 | refine below_set ?_ GE661.out) | exact HB.out))) : w.heap.size ≤ gb667)); have n5_ := Aside0.mk ((by rw [hg]; exact Nat.ne_of_lt (blk_lt (g := gb661) (o := .cells #[.slice A0_0 l0_0.length c0_0, .slice A0_1 l0_1.length c0_1, .slice A0_2 l0_2.length c0_2, .slice A0_3 l0_3.length c0_3, .slice A0_4 l0_4.length c0_4, .slice (some ad666) l0_5.length c0_5, .slice A0_6 l0_6.length c0_6, .slice A0_7 l0_7.length c0_7] 37 (0, 0)) (by (with_reducible repeat (first | refine blk_drewN ?_ _ | refine blk_drew ?_ | refine blk_alloc ?_ _)); exact BK661.out)) : gb661 ≠ gb667)); have n6_ := Aside0.mk ((by rw [hg]; exact Nat.ne_of_gt (blk_lt (g := gb661) (o := .cells #[.slice A0_0 l0_0.length c0_0, .slice A0_1 l0_1.length c0_1, .slice A0_2 l0_2.length c0_2, .slice A0_3 l0_3.length c0_3, .slice A0_4 l0_4.length c0_4, .slice (some ad666) l0_5.length c0_5, .slice A0_6 l0_6.length c0_6, .slice A0_7 l0_7.length c0_7] 37 (0, 0)) (by (with_reducible repeat (first | refine blk_drewN ?_ _ | refine blk_drew ?_ | refine blk_alloc ?_ _)); exact BK661.out)) : gb667 ≠ gb661)); clear BK661; clear HB; have BK661 := n0_; have HB := n1_; have BK667 := n2_; have GW667 := n3_; have GE667 := n4_; have NB661_667 := n5_; have NB667_661 := n6_; clear n0_ n1_ n2_ n3_ n4_ n5_ n6_; clear hb hbox hg; have hnb44 := NB667_661.out; have hnc44 := NB661_667.out; have hcz45_0 : w43.cell? ⟨gb667, 0, none⟩ = some (.string (⟨#[]⟩ : ByteArray)) := (blk_cell BK667.out 0).trans rfl; have hcz45_1 : w43.cell? ⟨gb667, 1, none⟩ = some (.int .i64 0) := (blk_cell BK667.out 1).trans rfl; have hcz45_2 : w43.cell? ⟨gb667, 2, none⟩ = some (.int .i64 0) := (blk_cell BK667.out 2).trans rfl; have hfz45_0 := blk_frozen BK667.out 0; have hfz45_1 := blk_frozen BK667.out 1; have hfz45_2 := blk_frozen BK667.out 2))
                          go_roundg k3
                          case measure => have := HK1.out; have := HK2.out; have := HK3.out; omega
                          case rel => exact ⟨(wrap64 (x35_3 + 1)), (by first | rfl | (simp; done) | (simp [*]; done)), H', ⟨by have := HK1.out; have := HK2.out; have := HK3.out; omega⟩, ⟨by (with_reducible repeat (first | refine blk_drewN ?_ _ | refine blk_drew ?_ | refine blk_alloc ?_ _)); refine blk_far ?_ NB661_667.out _; (with_reducible repeat (first | refine blk_drewN ?_ _ | refine blk_drew ?_ | refine blk_alloc ?_ _)); refine blk_far ?_ NB661_667.out _; (with_reducible repeat (first | refine blk_drewN ?_ _ | refine blk_drew ?_ | refine blk_alloc ?_ _)); refine blk_far ?_ NB661_667.out _; (with_reducible repeat (first | refine blk_drewN ?_ _ | refine blk_drew ?_ | refine blk_alloc ?_ _)); exact BK661.out⟩, ⟨by repeat (first | (with_reducible first | exact HB.out | apply below_alloc | apply pw_below_drewN | apply below_drew1 | refine below_set ?_ GE661.out | refine below_set ?_ GE667.out) | exact HB.out)⟩⟩
                      · rw [if_neg c29] at H
                        exact absurd H (by simp)
                    · rw [if_neg c28] at H
                      exact absurd H (by simp)
                  · rw [if_neg c27] at H
                    have c27b0 : decide (x35_3 < (l0_5.length : Int)) = false := decide_eq_false c27
                    clear c27
                    obtain rfl := Option.some.inj H
                    have hcz46_0 : wr.cell? ⟨gb661, 0, none⟩ = some (.slice A0_0 l0_0.length c0_0) := (blk_cell BK661.out 0).trans rfl
                    have hcz46_1 : wr.cell? ⟨gb661, 1, none⟩ = some (.slice A0_1 l0_1.length c0_1) := (blk_cell BK661.out 1).trans rfl
                    have hcz46_2 : wr.cell? ⟨gb661, 2, none⟩ = some (.slice A0_2 l0_2.length c0_2) := (blk_cell BK661.out 2).trans rfl
                    have hcz46_3 : wr.cell? ⟨gb661, 3, none⟩ = some (.slice A0_3 l0_3.length c0_3) := (blk_cell BK661.out 3).trans rfl
                    have hcz46_4 : wr.cell? ⟨gb661, 4, none⟩ = some (.slice A0_4 l0_4.length c0_4) := (blk_cell BK661.out 4).trans rfl
                    have hcz46_5 : wr.cell? ⟨gb661, 5, none⟩ = some (.slice A0_5 l0_5.length c0_5) := (blk_cell BK661.out 5).trans rfl
                    have hcz46_6 : wr.cell? ⟨gb661, 6, none⟩ = some (.slice A0_6 l0_6.length c0_6) := (blk_cell BK661.out 6).trans rfl
                    have hcz46_7 : wr.cell? ⟨gb661, 7, none⟩ = some (.slice A0_7 l0_7.length c0_7) := (blk_cell BK661.out 7).trans rfl
                    have hfz46_0 := blk_frozen BK661.out 0
                    have hfz46_1 := blk_frozen BK661.out 1
                    have hfz46_2 := blk_frozen BK661.out 2
                    have hfz46_3 := blk_frozen BK661.out 3
                    have hfz46_4 := blk_frozen BK661.out 4
                    have hfz46_5 := blk_frozen BK661.out 5
                    have hfz46_6 := blk_frozen BK661.out 6
                    have hfz46_7 := blk_frozen BK661.out 7
                    go_wp2
                    go_ret
                    exact ⟨by first | rfl | (simp [errW_none, errW_some] <;> rfl) | (simp [*, errW_none, errW_some] <;> rfl), by repeat (first | (with_reducible first | exact HB.out | apply below_alloc | apply pw_below_drewN | apply below_drew1 | refine below_set ?_ GE661.out) | exact HB.out)⟩
end Go.Proofs.YthehihjcpiadgaaGreat
end
section
namespace Go.Proofs.YthehihjcpiadgaaGreat
open Go.RowKit Go.Proofs.YthehihjcpiadgaaGreatW.PrintWords
set_option linter.unusedSimpArgs false
set_option linter.unusedVariables false
theorem take_none {p : Int → Bool} {xs : List Int} {k : Nat} (h : (xs.take k).any p = false) (hx : k < xs.length) (he : p (xs.getD k 0) = false) : (xs.take (k + 1)).any p = false := by
  rw [List.take_succ_eq_append_getElem hx, List.any_append, h]
  simp [List.getD_eq_getElem?_getD, hx] at he
  simp [he]
theorem any_at {p : Int → Bool} {xs : List Int} {k : Nat} (hx : k < xs.length) (he : p (xs.getD k 0) = true) : xs.any p = true := by
  rw [List.any_eq_true]
  simp [List.getD_eq_getElem?_getD, hx] at he
  exact ⟨xs[k], List.getElem_mem hx, he⟩
/-- A place, or -1. -/
def PlaceEnd (b : Bool) (w : World) (e : Ending) (w' : World) : Prop := ∃ r : Int, e = .returned (.int .i64 r) ∧ decide (0 ≤ r) = b ∧ w = w'
set_option maxRecDepth 100000 in
set_option maxHeartbeats 1000000 in
theorem slices_IndexFunc_int (G : Nat) (p : Int → Bool) (hG : ∀ x w, Sem.run Tryz.prog (callFunc G #[.int .i64 x]) w = .ok (.enter G #[.int .i64 x]) w) (hp : ∀ x w, Calls Tryz.prog G #[.int .i64 x] w fun e w' => e = .returned (.bool (p x)) ∧ w = w') (A : Option Addr) (cA : Nat) (xs : List Int) (w : World) (hx : IntsC w A xs) :
    Calls Tryz.prog 180 #[.slice A xs.length cA, .func (.func G) #[] #[]] w (PlaceEnd (xs.any p) w) := by
  have mx := Kd.C_max hx
  have HX := Lib.hid hx; have HP := Lib.hid hp; have HG := Lib.hid hG; clear hx hp hG
  go_enter Tryz.func180, Tryz.ntmps180
  go_wp2
  go_loop [8] (fun i => ∃ k : Nat, k ≤ xs.length ∧ i = .int .i64 k ∧ Hid ((xs.take k).any p = false)) (fun i => xs.length - (intOf i).toNat)
  case atStart => exact ⟨0, by omega, rfl, Lib.hid rfl⟩
  case round =>
    obtain ⟨k, hk, rfl, ht⟩ := hrel
    by_cases hlt : k < xs.length
    · obtain ⟨ad, e1, hc1⟩ := Kd.at_int HX.out (k : Int) (by omega) (by omega)
      subst e1
      rw [Int.toNat_natCast] at hc1
      have hkd := HP.out (rd xs k)
      cases hb : p (rd xs k) with
      | false =>
        rw [hb] at hkd
        have HK := Lib.hid hkd; have HB := Lib.hid hb; clear hkd hb
        go_wp2_with fail
        rw [HG.out, Oper.upon_enter]
        refine (HK.out _).mono ?_
        rintro e w' ⟨rfl, rfl⟩
        go_wp2_with fail
        go_round
        case rel => exact ⟨k + 1, by omega, by go_num, Lib.hid (take_none ht.out hlt (by have := HB.out; simpa [rd] using this))⟩
        case measure => simp [intOf]; omega
      | true =>
        rw [hb] at hkd
        have HK := Lib.hid hkd; have HB := Lib.hid hb; clear hkd hb
        go_wp2_with fail
        rw [HG.out, Oper.upon_enter]
        refine (HK.out _).mono ?_
        rintro e w' ⟨rfl, rfl⟩
        go_wp2_with fail
        go_ret
        exact ⟨(k : Int), rfl, by rw [any_at hlt (by have := HB.out; simpa [rd] using this)]; simp, rfl⟩
    · go_wp2
      go_ret
      refine ⟨-1, rfl, ?_, rfl⟩
      have : k = xs.length := by omega
      subst this
      have h := ht.out
      rw [List.take_of_length_le (Nat.le_refl _)] at h
      rw [h]
      rfl
set_option maxRecDepth 100000 in
theorem slices_ContainsFunc_int (G : Nat) (p : Int → Bool) (hG : ∀ x w, Sem.run Tryz.prog (callFunc G #[.int .i64 x]) w = .ok (.enter G #[.int .i64 x]) w) (hp : ∀ x w, Calls Tryz.prog G #[.int .i64 x] w fun e w' => e = .returned (.bool (p x)) ∧ w = w') (A : Option Addr) (cA : Nat) (xs : List Int) (w : World) (hx : IntsC w A xs) :
    Calls Tryz.prog 133 #[.slice A xs.length cA, .func (.func G) #[] #[]] w fun e w' => e = .returned (.bool (xs.any p)) ∧ w = w' := by
  have HC := Lib.hid (slices_IndexFunc_int G p hG hp A cA xs w hx)
  clear hx hp hG
  go_enter Tryz.func133, Tryz.ntmps133
  go_wp2_with fail
  refine HC.out.mono ?_
  rintro e w' ⟨r, rfl, hr, rfl⟩
  have HR := Lib.hid hr; clear hr
  go_wp2_with fail
  go_ret
  have hr := HR.out
  exact ⟨by rw [← hr]; rfl, rfl⟩
end Go.Proofs.YthehihjcpiadgaaGreat
end
section
namespace Go.Proofs.YthehihjcpiadgaaGreat
open Go.RowKit Go.Proofs.YthehihjcpiadgaaGreatW.PrintWords
set_option linter.unusedSimpArgs false
set_option linter.unusedVariables false
/-- Not one of the three types of numbers. -/
def noType (x : Int) : Bool := (!decide (x = 127) && !decide (x = 126)) && !decide (x = 124)
theorem module_types1 (x : Int) (w : World) : Calls Tryz.prog 134 #[.int .i64 x] w fun e w' => e = .returned (.bool (noType x)) ∧ w = w' := by
  go_enter Tryz.func134, Tryz.ntmps134
  by_cases h1 : x = 127
  · subst h1
    go_wp2
    go_ret
    exact ⟨rfl, rfl⟩
  · by_cases h2 : x = 126
    · subst h2
      go_wp2
      go_ret
      exact ⟨rfl, rfl⟩
    · have h1' : (x != 127) = true := by simpa using h1
      have h2' : (x != 126) = true := by simpa using h2
      go_wp2
      go_ret
      refine ⟨?_, rfl⟩
      simp [noType, h1, h2]
      try (first | rfl | (rw [Bool.eq_iff_iff]; simp))
theorem types1_enters (x : Int) (w : World) : Sem.run Tryz.prog (callFunc 134 #[.int .i64 x]) w = .ok (.enter 134 #[.int .i64 x]) w := enters_of Tryz.func134 (by kernel_rfl) rfl _ w
theorem module_types (A : Option Addr) (cA : Nat) (xs : List Int) (w : World) (hx : IntsC w A xs) :
    Calls Tryz.prog 77 #[.slice A xs.length cA] w fun e w' => e = .returned (.bool (!xs.any noType)) ∧ w = w' := by
  have HC := Lib.hid (slices_ContainsFunc_int 134 noType types1_enters module_types1 A cA xs w hx)
  clear hx
  go_enter Tryz.func77, Tryz.ntmps77
  go_wp2_with (first | (go_at_call 133; refine HC.out.mono ?_; rintro e w' ⟨rfl, rfl⟩))
  go_ret
  exact ⟨rfl, rfl⟩
end Go.Proofs.YthehihjcpiadgaaGreat
end
section
namespace Go.Proofs.YthehihjcpiadgaaGreat
open Go.RowKit Go.Proofs.YthehihjcpiadgaaGreatW.PrintWords
namespace Sp
def name (s : ByteArray) : Bool := decide (s.size ≤ 64) && text (bytesOf s)
def types (l : List Int) : Bool := !l.any noType
def typed (t : STy) : Bool := decide (t.f0.length ≤ 8) && (decide (t.f1.length ≤ 8) && (types t.f0 && types t.f1))
def index (n : Int) : Bool := decide (0 ≤ n ∧ n ≤ 2147483647)
def imported (x : SImp) : Bool := name x.f0 && (name x.f1 && index x.f2)
def custom (x : SCus) : Bool := name x.f0 && decide (x.f1.length ≤ 1048576)
def memory (x : SMem) : Bool := decide (0 ≤ x.f0) && (decide (x.f0 ≤ x.f1) && decide (x.f1 ≤ 512))
def globalOk (x : SGlob) : Bool := types [x.f0] && (decide (x.f0 ≠ 127) || decide (x.f2 ≤ 4294967295))
def laid (d : SData) : Bool := (if d.f0 then within d.f1 0 3 && index d.f2 else decide (d.f1 = 0) && decide (d.f2 = 0)) && decide (d.f3.length ≤ 1048576)
def full (m : SMod) : Bool := decide (64 < m.f0.length ∨ 256 < m.f1.length + m.f2.length ∨ 4 < m.f3.length ∨ 256 < m.f4.length ∨ 16 < m.f6.length ∨ 256 < m.f5.length ∨ 16 < m.f7.length)
/-- Are an instruction's fields as they may be? -/
def shapeOk (i : SInst) : Bool :=
  if opens i.f0 then within i.f1 (-4) 63 else if accB i.f0 then within i.f1 0 (4 - 1) && decide (i.f3 ≤ 4294967295)
  else if constT i.f0 ≠ 0 then decide (i.f0 ≠ 65) || decide (i.f3 ≤ 4294967295)
  else if i.f0 = 12 ∨ i.f0 = 13 then within i.f1 0 (65 - 1)
  else if i.f0 = 14 then decide (1 ≤ (i.f4.length : Int)) && (decide ((i.f4.length : Int) ≤ 17) && !i.f4.any (fun x => !within x 0 (65 - 1)))
  else if i.f0 = 16 ∨ i.f0 = 18 then within i.f1 0 (256 - 1)
  else if 32 ≤ i.f0 ∧ i.f0 ≤ 36 then within i.f1 0 (256 - 1)
  else if i.f0 = 63 ∨ i.f0 = 64 ∨ i.f0 = 64523 then within i.f1 0 (4 - 1)
  else if i.f0 = 64520 then within i.f1 0 (4 - 1) && within i.f2 0 (16 - 1)
  else if i.f0 = 64521 then within i.f1 0 (16 - 1)
  else if i.f0 = 64522 then within i.f1 0 (4 - 1) && within i.f2 0 (4 - 1)
  else true
def instOk (i : SInst) : Bool := known i.f0 && (shapeOk i && ((askA i.f0 || decide (i.f1 = 0)) && ((askB i.f0 || decide (i.f2 = 0)) && ((askN i.f0 || decide (i.f3 = 0)) && (askL i.f0 || decide ((i.f4.length : Int) = 0))))))
def coded (f : SFun) : Bool := index f.f0 && (decide (f.f1.length ≤ 256) && (types f.f1 && (decide (f.f2.length ≤ 65536) && !f.f2.any (fun i => !instOk i))))
/-- No name twice, each of them right. -/
def exported : List (List UInt8) → List SExp → Bool
  | _, [] => true
  | seen, x :: l => !decide (x.f0.data.toList ∈ seen) && name x.f0 && decide (x.f1 = 0 ∨ x.f1 = 2 ∨ x.f1 = 3) && index x.f2 && exported (x.f0.data.toList :: seen) l
def right (m : SMod) : Int :=
  if full m then 13
  else if !m.f0.all typed || !m.f1.all imported || !exported [] m.f5 || !m.f7.all custom || !m.f2.all coded || !m.f3.all memory || !m.f4.all globalOk || !m.f6.all laid then 12
  else 0
end Sp
end Go.Proofs.YthehihjcpiadgaaGreat
end
section
namespace Go.Proofs.YthehihjcpiadgaaGreat
open Go.RowKit Go.Proofs.YthehihjcpiadgaaGreatW.PrintWords
set_option linter.unusedSimpArgs false
set_option linter.unusedVariables false
namespace Sp
def most (M : SMod) (x : SExp) : Int := if x.f1 = 2 then M.f3.length else if x.f1 = 3 then M.f4.length else (M.f1.length : Int) + M.f2.length
def indA (M : SMod) : Bool := (List.range (M.f1.length + M.f2.length)).all (fun k => (sigOf M (k : Int)).isSome)
def indB (M : SMod) : Bool := M.f5.all (fun x => within x.f2 0 (most M x - 1))
def indC (M : SMod) : Bool := M.f6.all (fun d => !d.f0 || within d.f1 0 ((M.f3.length : Int) - 1))
/-- Is what a module names there? -/
def indices (M : SMod) : Bool := indA M && (indB M && indC M)
theorem indA_true {M : SMod} (h : ∀ j : Nat, j < M.f1.length + M.f2.length → (sigOf M (j : Int)).isSome = true) : indA M = true := by
  unfold indA; rw [List.all_eq_true]; intro x hx; exact h x (List.mem_range.1 hx)
theorem indA_false {M : SMod} (k : Nat) (hk : k < M.f1.length + M.f2.length) (h : (sigOf M (k : Int)).isSome = false) : indA M = false := by
  unfold indA; rw [List.all_eq_false]; exact ⟨k, List.mem_range.2 hk, by rw [h]; simp⟩
theorem all_takeS {α : Type} {p : α → Bool} {xs : List α} {k : Nat} {y : α} (h : (xs.take k).all p = true) (hx : k < xs.length) (z : α) (e : y = rdOf z xs (k : Int)) (he : p y = true) : (xs.take (k + 1)).all p = true := by
  subst e; rw [List.take_succ_eq_append_getElem hx, List.all_append, h]
  simp [rdOf, List.getD_eq_getElem?_getD, hx] at he
  simp [he]
theorem all_badS {α : Type} {p : α → Bool} {xs : List α} {k : Nat} {y : α} (hx : k < xs.length) (z : α) (e : y = rdOf z xs (k : Int)) (he : p y = false) : xs.all p = false := by
  subst e; rw [List.all_eq_false]
  simp [rdOf, List.getD_eq_getElem?_getD, hx] at he
  exact ⟨xs[k], List.getElem_mem hx, by simp [he]⟩
end Sp
set_option maxRecDepth 100000 in
set_option maxHeartbeats 8000000 in
theorem check_indices (M : SMod) (cs : List Value) (w : World) (hM : kMod.K w M cs) (n1 : M.f1.length ≤ 1000000) (n2 : M.f2.length ≤ 1000000) (n5 : M.f5.length ≤ 1000000) (n6 : M.f6.length ≤ 1000000) (hs : SmallTys M.f0) : Calls Tryz.prog 39 #[.agg cs.toArray] w (BoolEnd (Sp.indices M) w) := by
  obtain ⟨A0, c0, A1, c1, A2, c2, A3, c3, A4, c4, A5, c5, A6, c6, A7, c7, rfl, l0, g0, l1, g1, l2, g2, l3, g3, l4, g4, l5, g5, l6, g6, l7, g7⟩ := kMod_open hM
  have HM := Lib.hid hM; have HS := Lib.hid hs
  have HG5 := Lib.hid g5; have HG6 := Lib.hid g6
  clear hM hs l0 g0 l1 g1 l2 g2 l3 g3 l4 g4 l5 g5 l6 g6 l7 g7
  have hw : wrap64 ((M.f1.length : Int) + (M.f2.length : Int)) = (M.f1.length : Int) + (M.f2.length : Int) := Tx.w64 (by omega) (by omega)
  have HW := Lib.hid hw; clear hw
  go_enter Tryz.func39, Tryz.ntmps39
  have hw := HW.out
  go_wp2_with fail
  clear hw
  go_loopw [18] (fun i wr => ∃ k : Nat, k ≤ M.f1.length + M.f2.length ∧ i = .int .i64 k ∧ Hid (∀ j : Nat, j < k → (Sp.sigOf M (j : Int)).isSome = true) ∧ Hid (wr.heap[w.heap.size]? = some (.cells #[.slice A0 M.f0.length c0, .slice A1 M.f1.length c1, .slice A2 M.f2.length c2, .slice A3 M.f3.length c3, .slice A4 M.f4.length c4, .slice A5 M.f5.length c5, .slice A6 M.f6.length c6, .slice A7 M.f7.length c7] 37 (0, 0))) ∧ Hid (Below w.heap.size w wr)) (fun i _ => M.f1.length + M.f2.length - (intOf i).toNat)
  case atStart => exact ⟨0, by omega, rfl, Lib.hid (fun j hj => by omega), Lib.hid (heap_alloc_new w _), Lib.hid (below_alloc (Below.refl _ _) _)⟩
  case round =>
    obtain ⟨k, hk, rfl, ht, BK, HB⟩ := hrel
    rename_i wr _
    have wlt := blk_lt BK.out
    have y0 := (blk_cell BK.out 0).trans rfl
    have y1 := (blk_cell BK.out 1).trans rfl
    have y2 := (blk_cell BK.out 2).trans rfl
    have y3 := (blk_cell BK.out 3).trans rfl
    have y4 := (blk_cell BK.out 4).trans rfl
    have y5 := (blk_cell BK.out 5).trans rfl
    have y6 := (blk_cell BK.out 6).trans rfl
    have y7 := (blk_cell BK.out 7).trans rfl
    by_cases hlt : k < M.f1.length + M.f2.length
    · have hlt1 : (k : Int) < (M.f1.length : Int) + (M.f2.length : Int) := by omega
      have HSG := Lib.hid (module_Sig M _ (k : Int) wr (Kd.K_below kMod HB.out HM.out) n1 n2 HS.out (by omega) (by omega))
      obtain ⟨o, ho⟩ : ∃ o, o = Sp.sigOf M (k : Int) := ⟨_, rfl⟩
      have HO := Lib.hid ho
      rw [← ho] at HSG
      clear ho
      cases o with
      | none =>
        go_wp2_with (first | ((go_at_call 84); (with_reducible refine HSG.out.mono ?_); rintro e w2 ⟨v1, v2, rfl, r1, r2, hb⟩; obtain ⟨P1, k1, rfl⟩ := Kd.R_slice r1; obtain ⟨P2, k2, rfl⟩ := Kd.R_slice r2; have HB2 := Lib.hid hb; clear r1 r2 hb))
        go_ret
        refine ⟨?_, below_alloc (below_then HB.out HB.out.size HB2.out) _⟩
        rw [show Sp.indices M = false by unfold Sp.indices; rw [Sp.indA_false k hlt (by rw [← HO.out]; rfl)]; rfl]
        rfl
      | some t =>
        go_wp2_with (first | ((go_at_call 84); (with_reducible refine HSG.out.mono ?_); rintro e w2 ⟨v1, v2, rfl, r1, r2, hb⟩; obtain ⟨P1, k1, rfl⟩ := Kd.R_slice r1; obtain ⟨P2, k2, rfl⟩ := Kd.R_slice r2; have HB2 := Lib.hid hb; clear r1 r2 hb))
        go_roundw
        case rel => exact ⟨k + 1, by omega, by go_num, Lib.hid (fun j hj => by rcases Nat.lt_or_ge j k with h | h; exact ht.out j h; obtain rfl : j = k := (by omega); rw [← HO.out]; rfl), Lib.hid (blk_alloc ((HB2.out.block _ (blk_lt BK.out)).trans BK.out) _), Lib.hid (below_alloc (below_then HB.out HB.out.size HB2.out) _)⟩
        case measure => simp [intOf]; omega
    · have hge : ¬ ((k : Int) < (M.f1.length : Int) + (M.f2.length : Int)) := by omega
      have HA := Lib.hid (Sp.indA_true (M := M) (fun j hj => ht.out j (by omega)))
      clear ht hlt hk
      go_wp2_with fail
      clear hge wlt y0 y1 y2 y3 y4 y5 y6 y7
      obtain ⟨wo, rfl⟩ : ∃ wo : World, wo = wr := ⟨_, rfl⟩
      go_loopw [33] (fun i wr => ∃ k : Nat, k ≤ M.f5.length ∧ i = .int .i64 k ∧ Hid ((M.f5.take k).all (fun x => Sp.within x.f2 0 (Sp.most M x - 1)) = true) ∧ Hid (wr.heap[w.heap.size]? = some (.cells #[.slice A0 M.f0.length c0, .slice A1 M.f1.length c1, .slice A2 M.f2.length c2, .slice A3 M.f3.length c3, .slice A4 M.f4.length c4, .slice A5 M.f5.length c5, .slice A6 M.f6.length c6, .slice A7 M.f7.length c7] 37 (0, 0))) ∧ Hid (Below w.heap.size w wr)) (fun i _ => M.f5.length - (intOf i).toNat)
      case atStart => exact ⟨0, by omega, rfl, Lib.hid rfl, BK, HB⟩
      case round =>
        clear BK HB
        obtain ⟨k, hk, rfl, ht, BK, HB⟩ := hrel
        rename_i wr _
        have wlt := blk_lt BK.out
        have y0 := (blk_cell BK.out 0).trans rfl
        have y1 := (blk_cell BK.out 1).trans rfl
        have y2 := (blk_cell BK.out 2).trans rfl
        have y3 := (blk_cell BK.out 3).trans rfl
        have y4 := (blk_cell BK.out 4).trans rfl
        have y5 := (blk_cell BK.out 5).trans rfl
        have y6 := (blk_cell BK.out 6).trans rfl
        have y7 := (blk_cell BK.out 7).trans rfl
        by_cases hlt : k < M.f5.length
        · obtain ⟨ad, rfl, e0, e1, e2⟩ := at_TExp (Kd.C_below HG5.out HB.out) (k : Int) (by omega) (by omega)
          rw [Int.toNat_natCast] at e0 e1 e2
          obtain ⟨x, hx⟩ : ∃ x, x = rd_TExp M.f5 (k : Int) := ⟨_, rfl⟩
          rw [← hx] at e0 e1 e2
          have HX := Lib.hid hx; clear hx
          obtain ⟨b, hb⟩ : ∃ b, b = Sp.within x.f2 0 (Sp.most M x - 1) := ⟨_, rfl⟩
          have HBB := Lib.hid hb; clear hb
          have w12 : wrap64 ((M.f1.length : Int) + (M.f2.length : Int)) = (M.f1.length : Int) + (M.f2.length : Int) := HW.out
          by_cases k2 : x.f1 = 2
          · have q2 : (x.f1 == 2) = true := by simpa using k2
            have HT := Lib.hid (show ∀ W, Calls Tryz.prog 43 #[.int .i64 x.f2, .int .i64 (M.f3.length : Int)] W (fun e w' => e = .returned (.bool b) ∧ W = w') from fun W => by rw [HBB.out, show Sp.most M x = (M.f3.length : Int) by unfold Sp.most; rw [if_pos k2]]; exact check_there _ _ W)
            clear k2
            cases b with
            | false =>
              go_wp2_with (first | ((go_at_call 43); (with_reducible refine (HT.out _).mono ?_); rintro e w' ⟨rfl, rfl⟩))
              go_ret
              refine ⟨?_, below_alloc HB.out _⟩
              rw [show Sp.indices M = false by unfold Sp.indices Sp.indB; rw [Sp.all_badS hlt zExp rfl (by rw [show rdOf zExp M.f5 (k : Int) = x from HX.out.symm]; exact HBB.out.symm)]; simp]
              rfl
            | true =>
              go_wp2_with (first | ((go_at_call 43); (with_reducible refine (HT.out _).mono ?_); rintro e w' ⟨rfl, rfl⟩))
              go_roundw
              case rel => exact ⟨k + 1, by omega, by go_num, Lib.hid (Sp.all_takeS ht.out hlt zExp rfl (by rw [show rdOf zExp M.f5 (k : Int) = x from HX.out.symm]; exact HBB.out.symm)), Lib.hid (blk_alloc BK.out _), Lib.hid (below_alloc HB.out _)⟩
              case measure => simp [intOf]; omega
          · have q2 : (x.f1 == 2) = false := by simpa using k2
            by_cases k3 : x.f1 = 3
            · have q3 : (x.f1 == 3) = true := by simpa using k3
              have HT := Lib.hid (show ∀ W, Calls Tryz.prog 43 #[.int .i64 x.f2, .int .i64 (M.f4.length : Int)] W (fun e w' => e = .returned (.bool b) ∧ W = w') from fun W => by rw [HBB.out, show Sp.most M x = (M.f4.length : Int) by unfold Sp.most; rw [if_neg k2, if_pos k3]]; exact check_there _ _ W)
              clear k2 k3
              cases b with
              | false =>
                go_wp2_with (first | ((go_at_call 43); (with_reducible refine (HT.out _).mono ?_); rintro e w' ⟨rfl, rfl⟩))
                go_ret
                refine ⟨?_, below_alloc HB.out _⟩
                rw [show Sp.indices M = false by unfold Sp.indices Sp.indB; rw [Sp.all_badS hlt zExp rfl (by rw [show rdOf zExp M.f5 (k : Int) = x from HX.out.symm]; exact HBB.out.symm)]; simp]
                rfl
              | true =>
                go_wp2_with (first | ((go_at_call 43); (with_reducible refine (HT.out _).mono ?_); rintro e w' ⟨rfl, rfl⟩))
                go_roundw
                case rel => exact ⟨k + 1, by omega, by go_num, Lib.hid (Sp.all_takeS ht.out hlt zExp rfl (by rw [show rdOf zExp M.f5 (k : Int) = x from HX.out.symm]; exact HBB.out.symm)), Lib.hid (blk_alloc BK.out _), Lib.hid (below_alloc HB.out _)⟩
                case measure => simp [intOf]; omega
            · have q3 : (x.f1 == 3) = false := by simpa using k3
              have HT := Lib.hid (show ∀ W, Calls Tryz.prog 43 #[.int .i64 x.f2, .int .i64 ((M.f1.length : Int) + (M.f2.length : Int))] W (fun e w' => e = .returned (.bool b) ∧ W = w') from fun W => by rw [HBB.out, show Sp.most M x = ((M.f1.length : Int) + (M.f2.length : Int)) by unfold Sp.most; rw [if_neg k2, if_neg k3]]; exact check_there _ _ W)
              clear k2 k3
              cases b with
              | false =>
                go_wp2_with (first | ((go_at_call 43); (with_reducible refine (HT.out _).mono ?_); rintro e w' ⟨rfl, rfl⟩))
                go_ret
                refine ⟨?_, below_alloc HB.out _⟩
                rw [show Sp.indices M = false by unfold Sp.indices Sp.indB; rw [Sp.all_badS hlt zExp rfl (by rw [show rdOf zExp M.f5 (k : Int) = x from HX.out.symm]; exact HBB.out.symm)]; simp]
                rfl
              | true =>
                go_wp2_with (first | ((go_at_call 43); (with_reducible refine (HT.out _).mono ?_); rintro e w' ⟨rfl, rfl⟩))
                go_roundw
                case rel => exact ⟨k + 1, by omega, by go_num, Lib.hid (Sp.all_takeS ht.out hlt zExp rfl (by rw [show rdOf zExp M.f5 (k : Int) = x from HX.out.symm]; exact HBB.out.symm)), Lib.hid (blk_alloc BK.out _), Lib.hid (below_alloc HB.out _)⟩
                case measure => simp [intOf]; omega
        · have hge : ¬ ((k : Int) < (M.f5.length : Int)) := by omega
          have HBt := Lib.hid (show Sp.indB M = true by have h := ht.out; rw [List.take_of_length_le (by omega)] at h; exact h)
          clear ht hlt hk
          go_wp2_with fail
          clear hge wlt y0 y1 y2 y3 y4 y5 y6 y7
          obtain ⟨wq, rfl⟩ : ∃ wq : World, wq = wr := ⟨_, rfl⟩
          go_loopw [65] (fun i wr => ∃ k : Nat, k ≤ M.f6.length ∧ i = .int .i64 k ∧ Hid ((M.f6.take k).all (fun d => !d.f0 || Sp.within d.f1 0 ((M.f3.length : Int) - 1)) = true) ∧ Hid (wr.heap[w.heap.size]? = some (.cells #[.slice A0 M.f0.length c0, .slice A1 M.f1.length c1, .slice A2 M.f2.length c2, .slice A3 M.f3.length c3, .slice A4 M.f4.length c4, .slice A5 M.f5.length c5, .slice A6 M.f6.length c6, .slice A7 M.f7.length c7] 37 (0, 0))) ∧ Hid (Below w.heap.size w wr)) (fun i _ => M.f6.length - (intOf i).toNat)
          case atStart => exact ⟨0, by omega, rfl, Lib.hid rfl, BK, HB⟩
          case round =>
            clear BK HB
            obtain ⟨k, hk, rfl, ht, BK, HB⟩ := hrel
            rename_i wr _
            have wlt := blk_lt BK.out
            have y0 := (blk_cell BK.out 0).trans rfl
            have y1 := (blk_cell BK.out 1).trans rfl
            have y2 := (blk_cell BK.out 2).trans rfl
            have y3 := (blk_cell BK.out 3).trans rfl
            have y4 := (blk_cell BK.out 4).trans rfl
            have y5 := (blk_cell BK.out 5).trans rfl
            have y6 := (blk_cell BK.out 6).trans rfl
            have y7 := (blk_cell BK.out 7).trans rfl
            by_cases hlt : k < M.f6.length
            · obtain ⟨ad, A9, c9, rfl, e0, e1, e2, e3, -⟩ := at_TData (Kd.C_below HG6.out HB.out) (k : Int) (by omega) (by omega)
              rw [Int.toNat_natCast] at e0 e1 e2 e3
              obtain ⟨x, hx⟩ : ∃ x, x = rd_TData M.f6 (k : Int) := ⟨_, rfl⟩
              rw [← hx] at e0 e1 e2 e3
              have HX := Lib.hid hx; clear hx
              obtain ⟨b, hb⟩ : ∃ b, b = Sp.within x.f1 0 ((M.f3.length : Int) - 1) := ⟨_, rfl⟩
              have HBB := Lib.hid hb; clear hb
              have HT := Lib.hid (show ∀ W, Calls Tryz.prog 43 #[.int .i64 x.f1, .int .i64 (M.f3.length : Int)] W (fun e w' => e = .returned (.bool b) ∧ W = w') from fun W => by rw [HBB.out]; exact check_there _ _ W)
              obtain ⟨a, ha⟩ : ∃ a, a = x.f0 := ⟨_, rfl⟩
              rw [← ha] at e0
              have HA0 := Lib.hid ha; clear ha
              cases a with
              | false =>
                go_wp2_with fail
                go_roundw
                case rel => exact ⟨k + 1, by omega, by go_num, Lib.hid (Sp.all_takeS ht.out hlt zData rfl (by rw [show rdOf zData M.f6 (k : Int) = x from HX.out.symm, ← HA0.out]; rfl)), Lib.hid (blk_alloc BK.out _), Lib.hid (below_alloc HB.out _)⟩
                case measure => simp [intOf]; omega
              | true =>
                cases b with
                | false =>
                  go_wp2_with (first | ((go_at_call 43); (with_reducible refine (HT.out _).mono ?_); rintro e w' ⟨rfl, rfl⟩))
                  go_ret
                  refine ⟨?_, below_alloc HB.out _⟩
                  rw [show Sp.indices M = false by unfold Sp.indices Sp.indC; rw [Sp.all_badS hlt zData rfl (by rw [show rdOf zData M.f6 (k : Int) = x from HX.out.symm, ← HA0.out, ← HBB.out]; rfl)]; simp]
                  rfl
                | true =>
                  go_wp2_with (first | ((go_at_call 43); (with_reducible refine (HT.out _).mono ?_); rintro e w' ⟨rfl, rfl⟩))
                  go_roundw
                  case rel => exact ⟨k + 1, by omega, by go_num, Lib.hid (Sp.all_takeS ht.out hlt zData rfl (by rw [show rdOf zData M.f6 (k : Int) = x from HX.out.symm, ← HA0.out, ← HBB.out]; rfl)), Lib.hid (blk_alloc BK.out _), Lib.hid (below_alloc HB.out _)⟩
                  case measure => simp [intOf]; omega
            · have hge : ¬ ((k : Int) < (M.f6.length : Int)) := by omega
              have HCt := Lib.hid (show Sp.indC M = true by have h := ht.out; rw [List.take_of_length_le (by omega)] at h; exact h)
              go_wp2_with fail
              go_ret
              refine ⟨?_, HB.out⟩
              rw [show Sp.indices M = true by unfold Sp.indices; rw [HA.out, HBt.out, HCt.out]; rfl]
              rfl
end Go.Proofs.YthehihjcpiadgaaGreat
end
section
namespace Go.Proofs.YthehihjcpiadgaaGreat
open Go.RowKit Go.Proofs.YthehihjcpiadgaaGreatW.PrintWords
set_option linter.unusedSimpArgs false
set_option linter.unusedVariables false
namespace Sp
def varExp (M : SMod) (x : SExp) : Bool := decide (x.f1 = 3) && (rd_TGlob M.f4 x.f2).f1
def plainOk (M : SMod) : Bool := M.f0.all (fun t => !decide (1 < (t.f1.length : Int))) && (M.f6.all (fun d => d.f0) && (M.f5.all (fun x => !varExp M x) && decide ((M.f3.length : Int) ≤ 1)))
theorem all_drop {α : Type} (p : α → Bool) (xs : List α) (k : Nat) (z : α) (h : k < xs.length) : (xs.drop k).all p = (p (rdOf z xs (k : Int)) && (xs.drop (k + 1)).all p) := by
  rw [List.drop_eq_getElem_cons h, List.all_cons]
  simp [rdOf, List.getD_eq_getElem?_getD, h]
end Sp
theorem plain_l2 (M : SMod) (hg : ∀ k : Nat, k < M.f5.length → (rd_TExp M.f5 (k : Int)).f1 = 3 → 0 ≤ (rd_TExp M.f5 (k : Int)).f2 ∧ (rd_TExp M.f5 (k : Int)).f2 < M.f4.length) (hl : M.f5.length ≤ 1000000) (d : Nat) : ∀ (k n : Nat), k + d = M.f5.length → d < n →
    check_plain.l2 n M.f5 (M.f5.length : Int) (k : Int) M.f0 M.f1 M.f2 M.f3 M.f4 M.f5 M.f6 M.f7 = some ((M.f5.drop k).all (fun x => !Sp.varExp M x) && decide ((M.f3.length : Int) ≤ 1)) := by
  induction d with
  | zero =>
    intro k n hk hn
    obtain ⟨n, rfl⟩ : ∃ m, n = m + 1 := ⟨n - 1, by omega⟩
    unfold check_plain.l2
    rw [if_neg (by omega), List.drop_of_length_le (by omega)]
    rfl
  | succ d ih =>
    intro k n hk hn
    obtain ⟨n, rfl⟩ : ∃ m, n = m + 1 := ⟨n - 1, by omega⟩
    unfold check_plain.l2
    rw [if_pos (by omega), if_pos (by omega), if_pos (by omega), Sp.all_drop _ _ k zExp (by omega)]
    rw [show wrap64 ((k : Int) + 1) = ((k + 1 : Nat) : Int) by rw [Tx.w64 (by omega) (by omega)]; rfl]
    have e := ih (k + 1) n (by omega) (by omega)
    have hx : rdOf zExp M.f5 (k : Int) = rd_TExp M.f5 (k : Int) := rfl
    rw [hx]
    by_cases h3 : (rd_TExp M.f5 (k : Int)).f1 = 3
    · obtain ⟨g0, g1⟩ := hg k (by omega) h3
      rw [if_pos h3, if_pos g0, if_pos g1]
      by_cases hv : (rd_TGlob M.f4 (rd_TExp M.f5 (k : Int)).f2).f1 = true
      · rw [if_pos hv]
        simp [Sp.varExp, h3, hv]
      · rw [if_neg hv, e]
        simp [Sp.varExp, h3, hv]
    · rw [if_neg h3, e]
      simp [Sp.varExp, h3]
theorem plain_l1 (M : SMod) (hg : ∀ k : Nat, k < M.f5.length → (rd_TExp M.f5 (k : Int)).f1 = 3 → 0 ≤ (rd_TExp M.f5 (k : Int)).f2 ∧ (rd_TExp M.f5 (k : Int)).f2 < M.f4.length) (hl : M.f5.length ≤ 1000000) (hl6 : M.f6.length ≤ 1000000) (d : Nat) : ∀ (k n : Nat), k + d = M.f6.length → d + M.f5.length + 1 < n →
    check_plain.l1 n M.f6 (M.f6.length : Int) (k : Int) M.f0 M.f1 M.f2 M.f3 M.f4 M.f5 M.f6 M.f7 = some ((M.f6.drop k).all (fun d => d.f0) && (M.f5.all (fun x => !Sp.varExp M x) && decide ((M.f3.length : Int) ≤ 1))) := by
  induction d with
  | zero =>
    intro k n hk hn
    obtain ⟨n, rfl⟩ : ∃ m, n = m + 1 := ⟨n - 1, by omega⟩
    unfold check_plain.l1
    rw [if_neg (by omega), List.drop_of_length_le (by omega)]
    exact plain_l2 M hg hl M.f5.length 0 n (by omega) (by omega)
  | succ d ih =>
    intro k n hk hn
    obtain ⟨n, rfl⟩ : ∃ m, n = m + 1 := ⟨n - 1, by omega⟩
    unfold check_plain.l1
    rw [if_pos (by omega), if_pos (by omega), if_pos (by omega), Sp.all_drop _ _ k zData (by omega)]
    rw [show wrap64 ((k : Int) + 1) = ((k + 1 : Nat) : Int) by rw [Tx.w64 (by omega) (by omega)]; rfl]
    have e := ih (k + 1) n (by omega) (by omega)
    have hx : rdOf zData M.f6 (k : Int) = rd_TData M.f6 (k : Int) := rfl
    rw [hx]
    by_cases h3 : (rd_TData M.f6 (k : Int)).f0 = true
    · rw [if_pos h3, e, h3, Bool.true_and]
    · rw [if_neg h3]
      simp [h3]
theorem plain_l0 (M : SMod) (hg : ∀ k : Nat, k < M.f5.length → (rd_TExp M.f5 (k : Int)).f1 = 3 → 0 ≤ (rd_TExp M.f5 (k : Int)).f2 ∧ (rd_TExp M.f5 (k : Int)).f2 < M.f4.length) (hl : M.f5.length ≤ 1000000) (hl6 : M.f6.length ≤ 1000000) (hl0 : M.f0.length ≤ 1000000) (d : Nat) : ∀ (k n : Nat), k + d = M.f0.length → d + M.f6.length + M.f5.length + 2 < n →
    check_plain.l0 n M.f0 (M.f0.length : Int) (k : Int) M.f0 M.f1 M.f2 M.f3 M.f4 M.f5 M.f6 M.f7 = some ((M.f0.drop k).all (fun t => !decide (1 < (t.f1.length : Int))) && (M.f6.all (fun d => d.f0) && (M.f5.all (fun x => !Sp.varExp M x) && decide ((M.f3.length : Int) ≤ 1)))) := by
  induction d with
  | zero =>
    intro k n hk hn
    obtain ⟨n, rfl⟩ : ∃ m, n = m + 1 := ⟨n - 1, by omega⟩
    unfold check_plain.l0
    rw [if_neg (by omega), List.drop_of_length_le (by omega)]
    exact plain_l1 M hg hl hl6 M.f6.length 0 n (by omega) (by omega)
  | succ d ih =>
    intro k n hk hn
    obtain ⟨n, rfl⟩ : ∃ m, n = m + 1 := ⟨n - 1, by omega⟩
    unfold check_plain.l0
    rw [if_pos (by omega), if_pos (by omega), if_pos (by omega), Sp.all_drop _ _ k zTy (by omega)]
    rw [show wrap64 ((k : Int) + 1) = ((k + 1 : Nat) : Int) by rw [Tx.w64 (by omega) (by omega)]; rfl]
    have e := ih (k + 1) n (by omega) (by omega)
    have hx : rdOf zTy M.f0 (k : Int) = rd_TTy M.f0 (k : Int) := rfl
    rw [hx]
    by_cases h3 : ((rd_TTy M.f0 (k : Int)).f1.length : Int) > 1
    · rw [if_pos h3]
      rw [decide_eq_true (show (1 : Int) < ((rd_TTy M.f0 (k : Int)).f1.length : Int) from h3)]; rfl
    · rw [if_neg h3, e]
      rw [decide_eq_false (show ¬ (1 : Int) < ((rd_TTy M.f0 (k : Int)).f1.length : Int) from h3)]; rfl
theorem plain_is (M : SMod) (hg : ∀ k : Nat, k < M.f5.length → (rd_TExp M.f5 (k : Int)).f1 = 3 → 0 ≤ (rd_TExp M.f5 (k : Int)).f2 ∧ (rd_TExp M.f5 (k : Int)).f2 < M.f4.length) (hl : M.f5.length ≤ 1000) (hl6 : M.f6.length ≤ 1000) (hl0 : M.f0.length ≤ 1000) :
    check_plain.f 4000 M.f0 M.f1 M.f2 M.f3 M.f4 M.f5 M.f6 M.f7 = some (Sp.plainOk M) :=
  plain_l0 M hg (by omega) (by omega) (by omega) M.f0.length 0 4000 (by omega) (by omega)
theorem indices_exp {M : SMod} (h : Sp.indices M = true) (k : Nat) (hk : k < M.f5.length) (h3 : (rd_TExp M.f5 (k : Int)).f1 = 3) : 0 ≤ (rd_TExp M.f5 (k : Int)).f2 ∧ (rd_TExp M.f5 (k : Int)).f2 < M.f4.length := by
  unfold Sp.indices Sp.indB at h
  simp only [Bool.and_eq_true, List.all_eq_true] at h
  have hm : rd_TExp M.f5 (k : Int) ∈ M.f5 := by
    have e : rd_TExp M.f5 (k : Int) = M.f5[k] := by simp [rd_TExp, List.getD_eq_getElem?_getD, hk]
    rw [e]; exact List.getElem_mem hk
  have h5 := h.2.1 _ hm
  have e3 : Sp.most M (rd_TExp M.f5 (k : Int)) = M.f4.length := by unfold Sp.most; rw [if_neg (by omega), if_pos h3]
  rw [e3] at h5
  simp only [Sp.within, decide_eq_true_eq] at h5
  omega
theorem check_plain_is (M : SMod) (cs : List Value) (w : World) (hM : kMod.K w M cs) (hi : Sp.indices M = true) (hl : M.f5.length ≤ 1000) (hl6 : M.f6.length ≤ 1000) (hl0 : M.f0.length ≤ 1000) : Calls Tryz.prog 40 #[.agg cs.toArray] w (BoolEnd (Sp.plainOk M) w) := by
  obtain ⟨A0, c0, A1, c1, A2, c2, A3, c3, A4, c4, A5, c5, A6, c6, A7, c7, rfl, l0, g0, l1, g1, l2, g2, l3, g3, l4, g4, l5, g5, l6, g6, l7, g7⟩ := kMod_open hM
  exact check_plain.calls 4000 A0 c0 M.f0 A1 c1 M.f1 A2 c2 M.f2 A3 c3 M.f3 A4 c4 M.f4 A5 c5 M.f5 A6 c6 M.f6 A7 c7 M.f7 (Sp.plainOk M) w g0 l0 g1 l1 g2 l2 g3 l3 g4 l4 g5 l5 g6 l6 g7 l7 (plain_is M (fun k hk h3 => indices_exp hi k hk h3) hl hl6 hl0)
end Go.Proofs.YthehihjcpiadgaaGreat
end
section
namespace Go.Proofs.YthehihjcpiadgaaGreat
open Go.RowKit Go.Proofs.YthehihjcpiadgaaGreatW.PrintWords
set_option linter.unusedSimpArgs false
set_option linter.unusedVariables false
theorem module_shapeOf1 (x : Int) (w : World) : Calls Tryz.prog 213 #[.int .i64 x] w fun e w' => e = .returned (.bool (!Sp.within x 0 (65 - 1))) ∧ w = w' := by
  go_enter Tryz.func213, Tryz.ntmps213
  go_wp2_with (first | (go_at_call 137; refine (module_within _ _ _).mono ?_; rintro e w' ⟨rfl, rfl⟩))
  go_ret
  exact ⟨rfl, rfl⟩
theorem shapeOf1_enters (x : Int) (w : World) : Sem.run Tryz.prog (callFunc 213 #[.int .i64 x]) w = .ok (.enter 213 #[.int .i64 x]) w := enters_of Tryz.func213 (by kernel_rfl) rfl _ w
theorem contains_shapeOf1 (A : Option Addr) (cA : Nat) (xs : List Int) (w : World) (hx : IntsC w A xs) :
    Calls Tryz.prog 133 #[.slice A xs.length cA, .func (.func 213) #[] #[]] w fun e w' => e = .returned (.bool (xs.any fun x => !Sp.within x 0 (65 - 1))) ∧ w = w' :=
  slices_ContainsFunc_int 213 (fun x => !Sp.within x 0 (65 - 1)) shapeOf1_enters module_shapeOf1 A cA xs w hx
end Go.Proofs.YthehihjcpiadgaaGreat
end
