/- Lemmas for the row of CheckDead, part 2: what its functions do. -/
import Derived.Test.YthehihjcpiadgaaGreatProg
import Derived.Below
import Derived.Deep.Draws
import Derived.Deep.AppendLies
import Derived.Maps.AppendAt
import Derived.OwnWalk
import Derived.Laws.BytesArg
import Derived.Laws.MakeOwn
import Derived.Laws.OwnMore
import Derived.Deep.OwnRows
import Derived.Tactics
import Derived.Lib.ConvBytes
import Derived.Laws.Slices
import Derived.WalkKit
import Derived.KernelRfl
import Derived.RowKit3
import Derived.Deep.LoopGhost
import Derived.Deep.QuietTactic
import Derived.BigQuiet
import Derived.WideLaws
import Derived.Deep.DeepCutAuto
import Derived.Deep.CutBlock
import Derived.Deep.RegionHeld3
import Derived.Laws.Rows
import Derived.Lib.AppendStr
import Derived.ArgAppend
import Derived.Laws.IdiomCopy
import Derived.OrdersHeld
import Derived.Laws.BitsLemmas
import Derived.RowKit
import Derived.RangeFuncCalls
import Derived.Test.YthehihjcpiadgaaGreatCheckDeadG1
section
namespace Go.Proofs.YthehihjcpiadgaaGreat
open Go.RowKit Go.Proofs.YthehihjcpiadgaaGreatW.PrintWords Go.Proofs.YthehihjcpiadgaaGreatW.PrintLast Go.Proofs.YthehihjcpiadgaaGreatW.PrintMore
attribute [local go_sem] max2_int min2_int max_two min_two max_three min_three max_four min_four   -- for this text's walks alone
set_option linter.unusedVariables false
set_option linter.unusedSimpArgs false
def module_within.f (a0 : Int) (a1 : Int) : Option (Bool) := if a0 ≥ 0 then (some (decide (a0 < a1))) else (some false)
set_option maxHeartbeats 8000000 in
set_option maxRecDepth 100000 in
theorem module_within.calls (a0 : Int) (a1 : Int) (r : Bool) (w : World) (h : module_within.f a0 a1 = some r) :
    Calls Tryz.prog 137 #[.int .i64 a0, .int .i64 a1] w fun e w' => e = .returned (.bool r) ∧ Drawn0 w w' := by
  have H : (if a0 ≥ 0 then (some (decide (a0 < a1))) else (some false)) = some r := h
  clear h
  by_cases c3 : a0 ≥ 0
  · rw [if_pos c3] at H
    have c3b0 : decide (0 ≤ a0) = true := decide_eq_true c3
    clear c3
    obtain rfl := Option.some.inj H
    go_enter Tryz.func137, Tryz.ntmps137
    go_wp2
    go_ret
    exact ⟨by first | rfl | (simp; done) | (simp [*]; done), by repeat (first | exact Drawn0.refl _ | apply Drawn0.step)⟩
  · rw [if_neg c3] at H
    have c3b0 : decide (0 ≤ a0) = false := decide_eq_false c3
    clear c3
    obtain rfl := Option.some.inj H
    go_enter Tryz.func137, Tryz.ntmps137
    go_wp2
    go_ret
    exact ⟨by first | rfl | (simp; done) | (simp [*]; done), by repeat (first | exact Drawn0.refl _ | apply Drawn0.step)⟩
def module_full.f (l0_0 : List (STy)) (l0_1 : List (SImp)) (l0_2 : List (SFun)) (l0_3 : List (SMem)) (l0_4 : List (SGlob)) (l0_5 : List (SExp)) (l0_6 : List (SData)) (l0_7 : List (SCus)) : Option (Bool) := if (l0_0.length : Int) > 64 then (some true) else (if (wrap64 ((l0_1.length : Int) + (l0_2.length : Int))) > 256 then (some true) else (if (l0_3.length : Int) > 4 then (some true) else (if (l0_4.length : Int) > 256 then (some true) else (if (l0_6.length : Int) > 16 then (some true) else (if (l0_5.length : Int) > 256 then (some true) else (some (decide ((l0_7.length : Int) > 16))))))))
set_option maxHeartbeats 8000000 in
set_option maxRecDepth 100000 in
theorem module_full.calls (A0_0 : Option Addr) (c0_0 : Nat) (l0_0 : List (STy)) (A0_1 : Option Addr) (c0_1 : Nat) (l0_1 : List (SImp)) (A0_2 : Option Addr) (c0_2 : Nat) (l0_2 : List (SFun)) (A0_3 : Option Addr) (c0_3 : Nat) (l0_3 : List (SMem)) (A0_4 : Option Addr) (c0_4 : Nat) (l0_4 : List (SGlob)) (A0_5 : Option Addr) (c0_5 : Nat) (l0_5 : List (SExp)) (A0_6 : Option Addr) (c0_6 : Nat) (l0_6 : List (SData)) (A0_7 : Option Addr) (c0_7 : Nat) (l0_7 : List (SCus)) (r : Bool) (w : World) (hr0_0 : Kd.C kTy w A0_0 l0_0.length l0_0) (hc0_0 : l0_0.length ≤ c0_0) (hr0_1 : Kd.C kImp w A0_1 l0_1.length l0_1) (hc0_1 : l0_1.length ≤ c0_1) (hr0_2 : Kd.C kFun w A0_2 l0_2.length l0_2) (hc0_2 : l0_2.length ≤ c0_2) (hr0_3 : Kd.C kMem w A0_3 l0_3.length l0_3) (hc0_3 : l0_3.length ≤ c0_3) (hr0_4 : Kd.C kGlob w A0_4 l0_4.length l0_4) (hc0_4 : l0_4.length ≤ c0_4) (hr0_5 : Kd.C kExp w A0_5 l0_5.length l0_5) (hc0_5 : l0_5.length ≤ c0_5) (hr0_6 : Kd.C kData w A0_6 l0_6.length l0_6) (hc0_6 : l0_6.length ≤ c0_6) (hr0_7 : Kd.C kCus w A0_7 l0_7.length l0_7) (hc0_7 : l0_7.length ≤ c0_7) (h : module_full.f l0_0 l0_1 l0_2 l0_3 l0_4 l0_5 l0_6 l0_7 = some r) :
    Calls Tryz.prog 61 #[.agg #[.slice A0_0 l0_0.length c0_0, .slice A0_1 l0_1.length c0_1, .slice A0_2 l0_2.length c0_2, .slice A0_3 l0_3.length c0_3, .slice A0_4 l0_4.length c0_4, .slice A0_5 l0_5.length c0_5, .slice A0_6 l0_6.length c0_6, .slice A0_7 l0_7.length c0_7]] w fun e w' => e = .returned (.bool r) ∧ Below w.heap.size w w' := by
  have hu37 := Tryz.underlying37
  have HR0_0 := Aside0.mk hr0_0
  have HC0_0 := Aside0.mk hc0_0
  clear hr0_0 hc0_0
  have HR0_1 := Aside0.mk hr0_1
  have HC0_1 := Aside0.mk hc0_1
  clear hr0_1 hc0_1
  have HR0_2 := Aside0.mk hr0_2
  have HC0_2 := Aside0.mk hc0_2
  clear hr0_2 hc0_2
  have HR0_3 := Aside0.mk hr0_3
  have HC0_3 := Aside0.mk hc0_3
  clear hr0_3 hc0_3
  have HR0_4 := Aside0.mk hr0_4
  have HC0_4 := Aside0.mk hc0_4
  clear hr0_4 hc0_4
  have HR0_5 := Aside0.mk hr0_5
  have HC0_5 := Aside0.mk hc0_5
  clear hr0_5 hc0_5
  have HR0_6 := Aside0.mk hr0_6
  have HC0_6 := Aside0.mk hc0_6
  clear hr0_6 hc0_6
  have HR0_7 := Aside0.mk hr0_7
  have HC0_7 := Aside0.mk hc0_7
  clear hr0_7 hc0_7
  have HB := Aside0.mk (Below.refl w.heap.size w)
  have H : (if (l0_0.length : Int) > 64 then (some true) else (if (wrap64 ((l0_1.length : Int) + (l0_2.length : Int))) > 256 then (some true) else (if (l0_3.length : Int) > 4 then (some true) else (if (l0_4.length : Int) > 256 then (some true) else (if (l0_6.length : Int) > 16 then (some true) else (if (l0_5.length : Int) > 256 then (some true) else (some (decide ((l0_7.length : Int) > 16))))))))) = some r := h
  clear h
  by_cases c2 : (l0_0.length : Int) > 64
  · rw [if_pos c2] at H
    have c2b0 : decide (64 < (l0_0.length : Int)) = true := decide_eq_true c2
    have c2b1 : decide (64 < l0_0.length) = true := decide_eq_true (by omega)
    clear c2
    obtain rfl := Option.some.inj H
    go_enter Tryz.func61, Tryz.ntmps61
    go_wp2_with (first | ((with_reducible refine gate_dst (N := 1) rfl ?_); (try (refine gate_guard (by rfl) ?_; dsimp only)); refine box_event ?hg (N := 1) ?hd (cs := #[.slice A0_0 l0_0.length c0_0, .slice A0_1 l0_1.length c0_1, .slice A0_2 l0_2.length c0_2, .slice A0_3 l0_3.length c0_3, .slice A0_4 l0_4.length c0_4, .slice A0_5 l0_5.length c0_5, .slice A0_6 l0_6.length c0_6, .slice A0_7 l0_7.length c0_7]) (t := 37) ?hr ?_; (case hd => rfl); (case hg => rfl); (case hr => first | (go_simp; done) | (go_simp; rfl)); intro gb342 hg w3 hbox hb; have n0_ := Aside0.mk (below_step (by repeat (first | (with_reducible first | exact HB.out | apply below_alloc | apply pw_below_drewN | apply below_drew1) | exact HB.out)) hb); have n1_ := Aside0.mk (hbox); have n2_ := Aside0.mk ((by rw [hg]; exact (below_size (by repeat (first | (with_reducible first | exact HB.out | apply below_alloc | apply pw_below_drewN | apply below_drew1) | exact HB.out))) : w.heap.size ≤ gb342)); have n3_ := Aside0.mk ((by rw [hg]; exact (below_size (by repeat (first | (with_reducible first | exact HB.out | apply below_alloc | apply pw_below_drewN | apply below_drew1) | exact HB.out))) : w.heap.size ≤ gb342)); clear HB; have HB := n0_; have BK342 := n1_; have GW342 := n2_; have GE342 := n3_; clear n0_ n1_ n2_ n3_; clear hb hbox hg; have hcz4_0 : w3.cell? ⟨gb342, 0, none⟩ = some (.slice A0_0 l0_0.length c0_0) := (blk_cell BK342.out 0).trans rfl; have hcz4_1 : w3.cell? ⟨gb342, 1, none⟩ = some (.slice A0_1 l0_1.length c0_1) := (blk_cell BK342.out 1).trans rfl; have hcz4_2 : w3.cell? ⟨gb342, 2, none⟩ = some (.slice A0_2 l0_2.length c0_2) := (blk_cell BK342.out 2).trans rfl; have hcz4_3 : w3.cell? ⟨gb342, 3, none⟩ = some (.slice A0_3 l0_3.length c0_3) := (blk_cell BK342.out 3).trans rfl; have hcz4_4 : w3.cell? ⟨gb342, 4, none⟩ = some (.slice A0_4 l0_4.length c0_4) := (blk_cell BK342.out 4).trans rfl; have hcz4_5 : w3.cell? ⟨gb342, 5, none⟩ = some (.slice A0_5 l0_5.length c0_5) := (blk_cell BK342.out 5).trans rfl; have hcz4_6 : w3.cell? ⟨gb342, 6, none⟩ = some (.slice A0_6 l0_6.length c0_6) := (blk_cell BK342.out 6).trans rfl; have hcz4_7 : w3.cell? ⟨gb342, 7, none⟩ = some (.slice A0_7 l0_7.length c0_7) := (blk_cell BK342.out 7).trans rfl; have hfz4_0 := blk_frozen BK342.out 0; have hfz4_1 := blk_frozen BK342.out 1; have hfz4_2 := blk_frozen BK342.out 2; have hfz4_3 := blk_frozen BK342.out 3; have hfz4_4 := blk_frozen BK342.out 4; have hfz4_5 := blk_frozen BK342.out 5; have hfz4_6 := blk_frozen BK342.out 6; have hfz4_7 := blk_frozen BK342.out 7))
    go_ret
    exact ⟨by first | rfl | (simp [errW_none, errW_some] <;> rfl) | (simp [*, errW_none, errW_some] <;> rfl), by repeat (first | (with_reducible first | exact HB.out | apply below_alloc | apply pw_below_drewN | apply below_drew1 | refine below_set ?_ GE342.out) | exact HB.out)⟩
  · rw [if_neg c2] at H
    have c2b0 : decide (64 < (l0_0.length : Int)) = false := decide_eq_false c2
    have c2b1 : decide (64 < l0_0.length) = false := decide_eq_false (by omega)
    clear c2
    by_cases c5 : (wrap64 ((l0_1.length : Int) + (l0_2.length : Int))) > 256
    · rw [if_pos c5] at H
      have c5b0 : decide (256 < (wrap64 ((l0_1.length : Int) + (l0_2.length : Int)))) = true := decide_eq_true c5
      clear c5
      obtain rfl := Option.some.inj H
      go_enter Tryz.func61, Tryz.ntmps61
      go_wp2_with (first | ((with_reducible refine gate_dst (N := 1) rfl ?_); (try (refine gate_guard (by rfl) ?_; dsimp only)); refine box_event ?hg (N := 1) ?hd (cs := #[.slice A0_0 l0_0.length c0_0, .slice A0_1 l0_1.length c0_1, .slice A0_2 l0_2.length c0_2, .slice A0_3 l0_3.length c0_3, .slice A0_4 l0_4.length c0_4, .slice A0_5 l0_5.length c0_5, .slice A0_6 l0_6.length c0_6, .slice A0_7 l0_7.length c0_7]) (t := 37) ?hr ?_; (case hd => rfl); (case hg => rfl); (case hr => first | (go_simp; done) | (go_simp; rfl)); intro gb342 hg w6 hbox hb; have n0_ := Aside0.mk (below_step (by repeat (first | (with_reducible first | exact HB.out | apply below_alloc | apply pw_below_drewN | apply below_drew1) | exact HB.out)) hb); have n1_ := Aside0.mk (hbox); have n2_ := Aside0.mk ((by rw [hg]; exact (below_size (by repeat (first | (with_reducible first | exact HB.out | apply below_alloc | apply pw_below_drewN | apply below_drew1) | exact HB.out))) : w.heap.size ≤ gb342)); have n3_ := Aside0.mk ((by rw [hg]; exact (below_size (by repeat (first | (with_reducible first | exact HB.out | apply below_alloc | apply pw_below_drewN | apply below_drew1) | exact HB.out))) : w.heap.size ≤ gb342)); clear HB; have HB := n0_; have BK342 := n1_; have GW342 := n2_; have GE342 := n3_; clear n0_ n1_ n2_ n3_; clear hb hbox hg; have hcz7_0 : w6.cell? ⟨gb342, 0, none⟩ = some (.slice A0_0 l0_0.length c0_0) := (blk_cell BK342.out 0).trans rfl; have hcz7_1 : w6.cell? ⟨gb342, 1, none⟩ = some (.slice A0_1 l0_1.length c0_1) := (blk_cell BK342.out 1).trans rfl; have hcz7_2 : w6.cell? ⟨gb342, 2, none⟩ = some (.slice A0_2 l0_2.length c0_2) := (blk_cell BK342.out 2).trans rfl; have hcz7_3 : w6.cell? ⟨gb342, 3, none⟩ = some (.slice A0_3 l0_3.length c0_3) := (blk_cell BK342.out 3).trans rfl; have hcz7_4 : w6.cell? ⟨gb342, 4, none⟩ = some (.slice A0_4 l0_4.length c0_4) := (blk_cell BK342.out 4).trans rfl; have hcz7_5 : w6.cell? ⟨gb342, 5, none⟩ = some (.slice A0_5 l0_5.length c0_5) := (blk_cell BK342.out 5).trans rfl; have hcz7_6 : w6.cell? ⟨gb342, 6, none⟩ = some (.slice A0_6 l0_6.length c0_6) := (blk_cell BK342.out 6).trans rfl; have hcz7_7 : w6.cell? ⟨gb342, 7, none⟩ = some (.slice A0_7 l0_7.length c0_7) := (blk_cell BK342.out 7).trans rfl; have hfz7_0 := blk_frozen BK342.out 0; have hfz7_1 := blk_frozen BK342.out 1; have hfz7_2 := blk_frozen BK342.out 2; have hfz7_3 := blk_frozen BK342.out 3; have hfz7_4 := blk_frozen BK342.out 4; have hfz7_5 := blk_frozen BK342.out 5; have hfz7_6 := blk_frozen BK342.out 6; have hfz7_7 := blk_frozen BK342.out 7))
      go_ret
      exact ⟨by first | rfl | (simp [errW_none, errW_some] <;> rfl) | (simp [*, errW_none, errW_some] <;> rfl), by repeat (first | (with_reducible first | exact HB.out | apply below_alloc | apply pw_below_drewN | apply below_drew1 | refine below_set ?_ GE342.out) | exact HB.out)⟩
    · rw [if_neg c5] at H
      have c5b0 : decide (256 < (wrap64 ((l0_1.length : Int) + (l0_2.length : Int)))) = false := decide_eq_false c5
      clear c5
      by_cases c8 : (l0_3.length : Int) > 4
      · rw [if_pos c8] at H
        have c8b0 : decide (4 < (l0_3.length : Int)) = true := decide_eq_true c8
        have c8b1 : decide (4 < l0_3.length) = true := decide_eq_true (by omega)
        clear c8
        obtain rfl := Option.some.inj H
        go_enter Tryz.func61, Tryz.ntmps61
        go_wp2_with (first | ((with_reducible refine gate_dst (N := 1) rfl ?_); (try (refine gate_guard (by rfl) ?_; dsimp only)); refine box_event ?hg (N := 1) ?hd (cs := #[.slice A0_0 l0_0.length c0_0, .slice A0_1 l0_1.length c0_1, .slice A0_2 l0_2.length c0_2, .slice A0_3 l0_3.length c0_3, .slice A0_4 l0_4.length c0_4, .slice A0_5 l0_5.length c0_5, .slice A0_6 l0_6.length c0_6, .slice A0_7 l0_7.length c0_7]) (t := 37) ?hr ?_; (case hd => rfl); (case hg => rfl); (case hr => first | (go_simp; done) | (go_simp; rfl)); intro gb342 hg w9 hbox hb; have n0_ := Aside0.mk (below_step (by repeat (first | (with_reducible first | exact HB.out | apply below_alloc | apply pw_below_drewN | apply below_drew1) | exact HB.out)) hb); have n1_ := Aside0.mk (hbox); have n2_ := Aside0.mk ((by rw [hg]; exact (below_size (by repeat (first | (with_reducible first | exact HB.out | apply below_alloc | apply pw_below_drewN | apply below_drew1) | exact HB.out))) : w.heap.size ≤ gb342)); have n3_ := Aside0.mk ((by rw [hg]; exact (below_size (by repeat (first | (with_reducible first | exact HB.out | apply below_alloc | apply pw_below_drewN | apply below_drew1) | exact HB.out))) : w.heap.size ≤ gb342)); clear HB; have HB := n0_; have BK342 := n1_; have GW342 := n2_; have GE342 := n3_; clear n0_ n1_ n2_ n3_; clear hb hbox hg; have hcz10_0 : w9.cell? ⟨gb342, 0, none⟩ = some (.slice A0_0 l0_0.length c0_0) := (blk_cell BK342.out 0).trans rfl; have hcz10_1 : w9.cell? ⟨gb342, 1, none⟩ = some (.slice A0_1 l0_1.length c0_1) := (blk_cell BK342.out 1).trans rfl; have hcz10_2 : w9.cell? ⟨gb342, 2, none⟩ = some (.slice A0_2 l0_2.length c0_2) := (blk_cell BK342.out 2).trans rfl; have hcz10_3 : w9.cell? ⟨gb342, 3, none⟩ = some (.slice A0_3 l0_3.length c0_3) := (blk_cell BK342.out 3).trans rfl; have hcz10_4 : w9.cell? ⟨gb342, 4, none⟩ = some (.slice A0_4 l0_4.length c0_4) := (blk_cell BK342.out 4).trans rfl; have hcz10_5 : w9.cell? ⟨gb342, 5, none⟩ = some (.slice A0_5 l0_5.length c0_5) := (blk_cell BK342.out 5).trans rfl; have hcz10_6 : w9.cell? ⟨gb342, 6, none⟩ = some (.slice A0_6 l0_6.length c0_6) := (blk_cell BK342.out 6).trans rfl; have hcz10_7 : w9.cell? ⟨gb342, 7, none⟩ = some (.slice A0_7 l0_7.length c0_7) := (blk_cell BK342.out 7).trans rfl; have hfz10_0 := blk_frozen BK342.out 0; have hfz10_1 := blk_frozen BK342.out 1; have hfz10_2 := blk_frozen BK342.out 2; have hfz10_3 := blk_frozen BK342.out 3; have hfz10_4 := blk_frozen BK342.out 4; have hfz10_5 := blk_frozen BK342.out 5; have hfz10_6 := blk_frozen BK342.out 6; have hfz10_7 := blk_frozen BK342.out 7))
        go_ret
        exact ⟨by first | rfl | (simp [errW_none, errW_some] <;> rfl) | (simp [*, errW_none, errW_some] <;> rfl), by repeat (first | (with_reducible first | exact HB.out | apply below_alloc | apply pw_below_drewN | apply below_drew1 | refine below_set ?_ GE342.out) | exact HB.out)⟩
      · rw [if_neg c8] at H
        have c8b0 : decide (4 < (l0_3.length : Int)) = false := decide_eq_false c8
        have c8b1 : decide (4 < l0_3.length) = false := decide_eq_false (by omega)
        clear c8
        by_cases c11 : (l0_4.length : Int) > 256
        · rw [if_pos c11] at H
          have c11b0 : decide (256 < (l0_4.length : Int)) = true := decide_eq_true c11
          have c11b1 : decide (256 < l0_4.length) = true := decide_eq_true (by omega)
          clear c11
          obtain rfl := Option.some.inj H
          go_enter Tryz.func61, Tryz.ntmps61
          go_wp2_with (first | ((with_reducible refine gate_dst (N := 1) rfl ?_); (try (refine gate_guard (by rfl) ?_; dsimp only)); refine box_event ?hg (N := 1) ?hd (cs := #[.slice A0_0 l0_0.length c0_0, .slice A0_1 l0_1.length c0_1, .slice A0_2 l0_2.length c0_2, .slice A0_3 l0_3.length c0_3, .slice A0_4 l0_4.length c0_4, .slice A0_5 l0_5.length c0_5, .slice A0_6 l0_6.length c0_6, .slice A0_7 l0_7.length c0_7]) (t := 37) ?hr ?_; (case hd => rfl); (case hg => rfl); (case hr => first | (go_simp; done) | (go_simp; rfl)); intro gb342 hg w12 hbox hb; have n0_ := Aside0.mk (below_step (by repeat (first | (with_reducible first | exact HB.out | apply below_alloc | apply pw_below_drewN | apply below_drew1) | exact HB.out)) hb); have n1_ := Aside0.mk (hbox); have n2_ := Aside0.mk ((by rw [hg]; exact (below_size (by repeat (first | (with_reducible first | exact HB.out | apply below_alloc | apply pw_below_drewN | apply below_drew1) | exact HB.out))) : w.heap.size ≤ gb342)); have n3_ := Aside0.mk ((by rw [hg]; exact (below_size (by repeat (first | (with_reducible first | exact HB.out | apply below_alloc | apply pw_below_drewN | apply below_drew1) | exact HB.out))) : w.heap.size ≤ gb342)); clear HB; have HB := n0_; have BK342 := n1_; have GW342 := n2_; have GE342 := n3_; clear n0_ n1_ n2_ n3_; clear hb hbox hg; have hcz13_0 : w12.cell? ⟨gb342, 0, none⟩ = some (.slice A0_0 l0_0.length c0_0) := (blk_cell BK342.out 0).trans rfl; have hcz13_1 : w12.cell? ⟨gb342, 1, none⟩ = some (.slice A0_1 l0_1.length c0_1) := (blk_cell BK342.out 1).trans rfl; have hcz13_2 : w12.cell? ⟨gb342, 2, none⟩ = some (.slice A0_2 l0_2.length c0_2) := (blk_cell BK342.out 2).trans rfl; have hcz13_3 : w12.cell? ⟨gb342, 3, none⟩ = some (.slice A0_3 l0_3.length c0_3) := (blk_cell BK342.out 3).trans rfl; have hcz13_4 : w12.cell? ⟨gb342, 4, none⟩ = some (.slice A0_4 l0_4.length c0_4) := (blk_cell BK342.out 4).trans rfl; have hcz13_5 : w12.cell? ⟨gb342, 5, none⟩ = some (.slice A0_5 l0_5.length c0_5) := (blk_cell BK342.out 5).trans rfl; have hcz13_6 : w12.cell? ⟨gb342, 6, none⟩ = some (.slice A0_6 l0_6.length c0_6) := (blk_cell BK342.out 6).trans rfl; have hcz13_7 : w12.cell? ⟨gb342, 7, none⟩ = some (.slice A0_7 l0_7.length c0_7) := (blk_cell BK342.out 7).trans rfl; have hfz13_0 := blk_frozen BK342.out 0; have hfz13_1 := blk_frozen BK342.out 1; have hfz13_2 := blk_frozen BK342.out 2; have hfz13_3 := blk_frozen BK342.out 3; have hfz13_4 := blk_frozen BK342.out 4; have hfz13_5 := blk_frozen BK342.out 5; have hfz13_6 := blk_frozen BK342.out 6; have hfz13_7 := blk_frozen BK342.out 7))
          go_ret
          exact ⟨by first | rfl | (simp [errW_none, errW_some] <;> rfl) | (simp [*, errW_none, errW_some] <;> rfl), by repeat (first | (with_reducible first | exact HB.out | apply below_alloc | apply pw_below_drewN | apply below_drew1 | refine below_set ?_ GE342.out) | exact HB.out)⟩
        · rw [if_neg c11] at H
          have c11b0 : decide (256 < (l0_4.length : Int)) = false := decide_eq_false c11
          have c11b1 : decide (256 < l0_4.length) = false := decide_eq_false (by omega)
          clear c11
          by_cases c14 : (l0_6.length : Int) > 16
          · rw [if_pos c14] at H
            have c14b0 : decide (16 < (l0_6.length : Int)) = true := decide_eq_true c14
            have c14b1 : decide (16 < l0_6.length) = true := decide_eq_true (by omega)
            clear c14
            obtain rfl := Option.some.inj H
            go_enter Tryz.func61, Tryz.ntmps61
            go_wp2_with (first | ((with_reducible refine gate_dst (N := 1) rfl ?_); (try (refine gate_guard (by rfl) ?_; dsimp only)); refine box_event ?hg (N := 1) ?hd (cs := #[.slice A0_0 l0_0.length c0_0, .slice A0_1 l0_1.length c0_1, .slice A0_2 l0_2.length c0_2, .slice A0_3 l0_3.length c0_3, .slice A0_4 l0_4.length c0_4, .slice A0_5 l0_5.length c0_5, .slice A0_6 l0_6.length c0_6, .slice A0_7 l0_7.length c0_7]) (t := 37) ?hr ?_; (case hd => rfl); (case hg => rfl); (case hr => first | (go_simp; done) | (go_simp; rfl)); intro gb342 hg w15 hbox hb; have n0_ := Aside0.mk (below_step (by repeat (first | (with_reducible first | exact HB.out | apply below_alloc | apply pw_below_drewN | apply below_drew1) | exact HB.out)) hb); have n1_ := Aside0.mk (hbox); have n2_ := Aside0.mk ((by rw [hg]; exact (below_size (by repeat (first | (with_reducible first | exact HB.out | apply below_alloc | apply pw_below_drewN | apply below_drew1) | exact HB.out))) : w.heap.size ≤ gb342)); have n3_ := Aside0.mk ((by rw [hg]; exact (below_size (by repeat (first | (with_reducible first | exact HB.out | apply below_alloc | apply pw_below_drewN | apply below_drew1) | exact HB.out))) : w.heap.size ≤ gb342)); clear HB; have HB := n0_; have BK342 := n1_; have GW342 := n2_; have GE342 := n3_; clear n0_ n1_ n2_ n3_; clear hb hbox hg; have hcz16_0 : w15.cell? ⟨gb342, 0, none⟩ = some (.slice A0_0 l0_0.length c0_0) := (blk_cell BK342.out 0).trans rfl; have hcz16_1 : w15.cell? ⟨gb342, 1, none⟩ = some (.slice A0_1 l0_1.length c0_1) := (blk_cell BK342.out 1).trans rfl; have hcz16_2 : w15.cell? ⟨gb342, 2, none⟩ = some (.slice A0_2 l0_2.length c0_2) := (blk_cell BK342.out 2).trans rfl; have hcz16_3 : w15.cell? ⟨gb342, 3, none⟩ = some (.slice A0_3 l0_3.length c0_3) := (blk_cell BK342.out 3).trans rfl; have hcz16_4 : w15.cell? ⟨gb342, 4, none⟩ = some (.slice A0_4 l0_4.length c0_4) := (blk_cell BK342.out 4).trans rfl; have hcz16_5 : w15.cell? ⟨gb342, 5, none⟩ = some (.slice A0_5 l0_5.length c0_5) := (blk_cell BK342.out 5).trans rfl; have hcz16_6 : w15.cell? ⟨gb342, 6, none⟩ = some (.slice A0_6 l0_6.length c0_6) := (blk_cell BK342.out 6).trans rfl; have hcz16_7 : w15.cell? ⟨gb342, 7, none⟩ = some (.slice A0_7 l0_7.length c0_7) := (blk_cell BK342.out 7).trans rfl; have hfz16_0 := blk_frozen BK342.out 0; have hfz16_1 := blk_frozen BK342.out 1; have hfz16_2 := blk_frozen BK342.out 2; have hfz16_3 := blk_frozen BK342.out 3; have hfz16_4 := blk_frozen BK342.out 4; have hfz16_5 := blk_frozen BK342.out 5; have hfz16_6 := blk_frozen BK342.out 6; have hfz16_7 := blk_frozen BK342.out 7))
            go_ret
            exact ⟨by first | rfl | (simp [errW_none, errW_some] <;> rfl) | (simp [*, errW_none, errW_some] <;> rfl), by repeat (first | (with_reducible first | exact HB.out | apply below_alloc | apply pw_below_drewN | apply below_drew1 | refine below_set ?_ GE342.out) | exact HB.out)⟩
          · rw [if_neg c14] at H
            have c14b0 : decide (16 < (l0_6.length : Int)) = false := decide_eq_false c14
            have c14b1 : decide (16 < l0_6.length) = false := decide_eq_false (by omega)
            clear c14
            by_cases c17 : (l0_5.length : Int) > 256
            · rw [if_pos c17] at H
              have c17b0 : decide (256 < (l0_5.length : Int)) = true := decide_eq_true c17
              have c17b1 : decide (256 < l0_5.length) = true := decide_eq_true (by omega)
              clear c17
              obtain rfl := Option.some.inj H
              go_enter Tryz.func61, Tryz.ntmps61
              go_wp2_with (first | ((with_reducible refine gate_dst (N := 1) rfl ?_); (try (refine gate_guard (by rfl) ?_; dsimp only)); refine box_event ?hg (N := 1) ?hd (cs := #[.slice A0_0 l0_0.length c0_0, .slice A0_1 l0_1.length c0_1, .slice A0_2 l0_2.length c0_2, .slice A0_3 l0_3.length c0_3, .slice A0_4 l0_4.length c0_4, .slice A0_5 l0_5.length c0_5, .slice A0_6 l0_6.length c0_6, .slice A0_7 l0_7.length c0_7]) (t := 37) ?hr ?_; (case hd => rfl); (case hg => rfl); (case hr => first | (go_simp; done) | (go_simp; rfl)); intro gb342 hg w18 hbox hb; have n0_ := Aside0.mk (below_step (by repeat (first | (with_reducible first | exact HB.out | apply below_alloc | apply pw_below_drewN | apply below_drew1) | exact HB.out)) hb); have n1_ := Aside0.mk (hbox); have n2_ := Aside0.mk ((by rw [hg]; exact (below_size (by repeat (first | (with_reducible first | exact HB.out | apply below_alloc | apply pw_below_drewN | apply below_drew1) | exact HB.out))) : w.heap.size ≤ gb342)); have n3_ := Aside0.mk ((by rw [hg]; exact (below_size (by repeat (first | (with_reducible first | exact HB.out | apply below_alloc | apply pw_below_drewN | apply below_drew1) | exact HB.out))) : w.heap.size ≤ gb342)); clear HB; have HB := n0_; have BK342 := n1_; have GW342 := n2_; have GE342 := n3_; clear n0_ n1_ n2_ n3_; clear hb hbox hg; have hcz19_0 : w18.cell? ⟨gb342, 0, none⟩ = some (.slice A0_0 l0_0.length c0_0) := (blk_cell BK342.out 0).trans rfl; have hcz19_1 : w18.cell? ⟨gb342, 1, none⟩ = some (.slice A0_1 l0_1.length c0_1) := (blk_cell BK342.out 1).trans rfl; have hcz19_2 : w18.cell? ⟨gb342, 2, none⟩ = some (.slice A0_2 l0_2.length c0_2) := (blk_cell BK342.out 2).trans rfl; have hcz19_3 : w18.cell? ⟨gb342, 3, none⟩ = some (.slice A0_3 l0_3.length c0_3) := (blk_cell BK342.out 3).trans rfl; have hcz19_4 : w18.cell? ⟨gb342, 4, none⟩ = some (.slice A0_4 l0_4.length c0_4) := (blk_cell BK342.out 4).trans rfl; have hcz19_5 : w18.cell? ⟨gb342, 5, none⟩ = some (.slice A0_5 l0_5.length c0_5) := (blk_cell BK342.out 5).trans rfl; have hcz19_6 : w18.cell? ⟨gb342, 6, none⟩ = some (.slice A0_6 l0_6.length c0_6) := (blk_cell BK342.out 6).trans rfl; have hcz19_7 : w18.cell? ⟨gb342, 7, none⟩ = some (.slice A0_7 l0_7.length c0_7) := (blk_cell BK342.out 7).trans rfl; have hfz19_0 := blk_frozen BK342.out 0; have hfz19_1 := blk_frozen BK342.out 1; have hfz19_2 := blk_frozen BK342.out 2; have hfz19_3 := blk_frozen BK342.out 3; have hfz19_4 := blk_frozen BK342.out 4; have hfz19_5 := blk_frozen BK342.out 5; have hfz19_6 := blk_frozen BK342.out 6; have hfz19_7 := blk_frozen BK342.out 7))
              go_ret
              exact ⟨by first | rfl | (simp [errW_none, errW_some] <;> rfl) | (simp [*, errW_none, errW_some] <;> rfl), by repeat (first | (with_reducible first | exact HB.out | apply below_alloc | apply pw_below_drewN | apply below_drew1 | refine below_set ?_ GE342.out) | exact HB.out)⟩
            · rw [if_neg c17] at H
              have c17b0 : decide (256 < (l0_5.length : Int)) = false := decide_eq_false c17
              have c17b1 : decide (256 < l0_5.length) = false := decide_eq_false (by omega)
              clear c17
              obtain rfl := Option.some.inj H
              go_enter Tryz.func61, Tryz.ntmps61
              go_wp2_with (first | ((with_reducible refine gate_dst (N := 1) rfl ?_); (try (refine gate_guard (by rfl) ?_; dsimp only)); refine box_event ?hg (N := 1) ?hd (cs := #[.slice A0_0 l0_0.length c0_0, .slice A0_1 l0_1.length c0_1, .slice A0_2 l0_2.length c0_2, .slice A0_3 l0_3.length c0_3, .slice A0_4 l0_4.length c0_4, .slice A0_5 l0_5.length c0_5, .slice A0_6 l0_6.length c0_6, .slice A0_7 l0_7.length c0_7]) (t := 37) ?hr ?_; (case hd => rfl); (case hg => rfl); (case hr => first | (go_simp; done) | (go_simp; rfl)); intro gb342 hg w20 hbox hb; have n0_ := Aside0.mk (below_step (by repeat (first | (with_reducible first | exact HB.out | apply below_alloc | apply pw_below_drewN | apply below_drew1) | exact HB.out)) hb); have n1_ := Aside0.mk (hbox); have n2_ := Aside0.mk ((by rw [hg]; exact (below_size (by repeat (first | (with_reducible first | exact HB.out | apply below_alloc | apply pw_below_drewN | apply below_drew1) | exact HB.out))) : w.heap.size ≤ gb342)); have n3_ := Aside0.mk ((by rw [hg]; exact (below_size (by repeat (first | (with_reducible first | exact HB.out | apply below_alloc | apply pw_below_drewN | apply below_drew1) | exact HB.out))) : w.heap.size ≤ gb342)); clear HB; have HB := n0_; have BK342 := n1_; have GW342 := n2_; have GE342 := n3_; clear n0_ n1_ n2_ n3_; clear hb hbox hg; have hcz21_0 : w20.cell? ⟨gb342, 0, none⟩ = some (.slice A0_0 l0_0.length c0_0) := (blk_cell BK342.out 0).trans rfl; have hcz21_1 : w20.cell? ⟨gb342, 1, none⟩ = some (.slice A0_1 l0_1.length c0_1) := (blk_cell BK342.out 1).trans rfl; have hcz21_2 : w20.cell? ⟨gb342, 2, none⟩ = some (.slice A0_2 l0_2.length c0_2) := (blk_cell BK342.out 2).trans rfl; have hcz21_3 : w20.cell? ⟨gb342, 3, none⟩ = some (.slice A0_3 l0_3.length c0_3) := (blk_cell BK342.out 3).trans rfl; have hcz21_4 : w20.cell? ⟨gb342, 4, none⟩ = some (.slice A0_4 l0_4.length c0_4) := (blk_cell BK342.out 4).trans rfl; have hcz21_5 : w20.cell? ⟨gb342, 5, none⟩ = some (.slice A0_5 l0_5.length c0_5) := (blk_cell BK342.out 5).trans rfl; have hcz21_6 : w20.cell? ⟨gb342, 6, none⟩ = some (.slice A0_6 l0_6.length c0_6) := (blk_cell BK342.out 6).trans rfl; have hcz21_7 : w20.cell? ⟨gb342, 7, none⟩ = some (.slice A0_7 l0_7.length c0_7) := (blk_cell BK342.out 7).trans rfl; have hfz21_0 := blk_frozen BK342.out 0; have hfz21_1 := blk_frozen BK342.out 1; have hfz21_2 := blk_frozen BK342.out 2; have hfz21_3 := blk_frozen BK342.out 3; have hfz21_4 := blk_frozen BK342.out 4; have hfz21_5 := blk_frozen BK342.out 5; have hfz21_6 := blk_frozen BK342.out 6; have hfz21_7 := blk_frozen BK342.out 7))
              go_ret
              exact ⟨by first | rfl | (simp [errW_none, errW_some] <;> rfl) | (simp [*, errW_none, errW_some] <;> rfl), by repeat (first | (with_reducible first | exact HB.out | apply below_alloc | apply pw_below_drewN | apply below_drew1 | refine below_set ?_ GE342.out) | exact HB.out)⟩
def text_kinds.f  : Option ((List (S231))) := some (([(⟨128, 0, 0, 0⟩ : S231), (⟨224, 192, 1, 128⟩ : S231), (⟨240, 224, 2, 2048⟩ : S231), (⟨248, 240, 3, 65536⟩ : S231)] : List (S231)))
set_option maxHeartbeats 8000000 in
set_option maxRecDepth 100000 in
theorem text_kinds.calls  (r : List (S231)) (w : World) (h : text_kinds.f  = some r) :
    Calls Tryz.prog 222 #[] w fun e w' => ∃ v0_ : Value, e = .returned (v0_) ∧ Kd.R k231 231 w' w.heap.size (fun _ => True) v0_ r ∧ Below w.heap.size w w' := by
  have hu231 := Tryz.underlying231
  have HB := Aside0.mk (Below.refl w.heap.size w)
  have H : (some (([(⟨128, 0, 0, 0⟩ : S231), (⟨224, 192, 1, 128⟩ : S231), (⟨240, 224, 2, 2048⟩ : S231), (⟨248, 240, 3, 65536⟩ : S231)] : List (S231)))) = some r := h
  clear h
  obtain ⟨y344, hy344⟩ : ∃ y_ : List (S231), y_ = (([(⟨128, 0, 0, 0⟩ : S231), (⟨224, 192, 1, 128⟩ : S231), (⟨240, 224, 2, 2048⟩ : S231), (⟨248, 240, 3, 65536⟩ : S231)] : List (S231))) := ⟨_, rfl⟩
  replace H : (some y344) = some r := by first | (rw [hy344]; with_reducible exact H) | (have H2_ := (Option.bind_some _ _).symm.trans H; rw [hy344]; with_reducible exact H2_) | (have H2_ := (Option.bind_some _ _).symm.trans H; with_reducible exact H2_) | with_reducible exact H | (rw [hy344]; exact H) | exact H
  have Ny344 := Aside0.mk hy344
  clear hy344
  obtain rfl := Option.some.inj H
  go_enter Tryz.func222, Tryz.ntmps222
  go_wp2_with (first | ((with_reducible refine gate_dst (N := 5) rfl ?_); refine Kd.R_lit k231 _ 231 ?hg (N := 5) ?hd (xs := ([(⟨128, 0, 0, 0⟩ : S231), (⟨224, 192, 1, 128⟩ : S231), (⟨240, 224, 2, 2048⟩ : S231), (⟨248, 240, 3, 65536⟩ : S231)] : List (S231))) (inner := [.int .u8 128, .int .u8 0, .int .i64 0, .int .u32 0, .int .u8 224, .int .u8 192, .int .i64 1, .int .u32 128, .int .u8 240, .int .u8 224, .int .i64 2, .int .u32 2048, .int .u8 248, .int .u8 240, .int .i64 3, .int .u32 65536]) (ok := fun _ => True) (okp := fun _ => True) ?hr ?hp (fun _ hk => hk) trivial (Below.refl _ _) (Nat.le_refl _) (by simp) ?_; (case hd => rfl); (case hg => rfl); (case hr => first | (go_simp; done) | (go_simp; rfl)); (case hp => exact (Reps.c4 (show Kd.M k231 _ _ _ (⟨128, 0, 0, 0⟩ : S231) [.int .u8 128, .int .u8 0, .int .i64 0, .int .u32 0] from (k231_mkM _ _ _ (⟨128, 0, 0, 0⟩ : S231) )) (Reps.c4 (show Kd.M k231 _ _ _ (⟨224, 192, 1, 128⟩ : S231) [.int .u8 224, .int .u8 192, .int .i64 1, .int .u32 128] from (k231_mkM _ _ _ (⟨224, 192, 1, 128⟩ : S231) )) (Reps.c4 (show Kd.M k231 _ _ _ (⟨240, 224, 2, 2048⟩ : S231) [.int .u8 240, .int .u8 224, .int .i64 2, .int .u32 2048] from (k231_mkM _ _ _ (⟨240, 224, 2, 2048⟩ : S231) )) (Reps.c4 (show Kd.M k231 _ _ _ (⟨248, 240, 3, 65536⟩ : S231) [.int .u8 248, .int .u8 240, .int .i64 3, .int .u32 65536] from (k231_mkM _ _ _ (⟨248, 240, 3, 65536⟩ : S231) )) (Reps.none _ _)))))); intro v345 w1 ho2 hb hg_ hnew_; clear hg_ hnew_; (first | rw [← Ny344.out] at ho2 | (simp only [Int.reduceToNat] at ho2; rw [← Ny344.out] at ho2)); have n0_ := Aside0.mk (Kd.R_lower ho2 (below_size (by repeat (first | (with_reducible first | exact HB.out | apply below_alloc | apply pw_below_drewN | apply below_drew1) | exact HB.out)))); have n1_ := Aside0.mk (below_step (by repeat (first | (with_reducible first | exact HB.out | apply below_alloc | apply pw_below_drewN | apply below_drew1) | exact HB.out)) hb); clear HB; have HO346 := n0_; have HB := n1_; clear n0_ n1_; clear hb ho2))
  go_ret
  exact ⟨_, by first | rfl | (simp [errW_none, errW_some] <;> rfl) | (simp [*, errW_none, errW_some] <;> rfl), by (with_reducible repeat (first | apply Kd.R_alloc | apply Kd.R_drewN | apply Kd.R_drew)); exact HO346.out, by repeat (first | (with_reducible first | exact HB.out | apply below_alloc | apply pw_below_drewN | apply below_drew1) | exact HB.out)⟩
mutual
def text_sign.l0 : Nat → List Int → List (S231) → Int → Int → Option (Int)
  | 0, _, _, _, _ => none
  | k + 1, x0, x8, x9, x10 => if x10 < x9 then (if 0 ≤ x10 then (if x10 < (x8.length : Int) then (if 0 < (x0.length : Int) then (if (Go.bits .and .u8 (rd x0 0) ((rd_T231 x8 x10).f0)) = ((rd_T231 x8 x10).f1) then (text_sign.j1 k x0 x8 x9 x10 (decide ((x0.length : Int) ≤ ((rd_T231 x8 x10).f2))) ((rd_T231 x8 x10).f0) ((rd_T231 x8 x10).f1) ((rd_T231 x8 x10).f2) ((rd_T231 x8 x10).f3)) else (text_sign.j1 k x0 x8 x9 x10 true ((rd_T231 x8 x10).f0) ((rd_T231 x8 x10).f1) ((rd_T231 x8 x10).f2) ((rd_T231 x8 x10).f3))) else (none)) else (none)) else (none)) else (some 0)
def text_sign.j1 : Nat → List Int → List (S231) → Int → Int → Bool → Int → Int → Int → Int → Option (Int)
  | 0, _, _, _, _, _, _, _, _, _ => none
  | k + 1, x0, x8, x9, x10, x29, x352000, x352001, x352002, x352003 => if x29 = true then (text_sign.l0 k x0 x8 x9 (wrap64 (x10 + 1))) else (if 0 < (x0.length : Int) then (if 1 ≤ (wrap64 (1 + x352002)) then (if (wrap64 (1 + x352002)) ≤ (x0.length : Int) then (text_sign.l1 k ((Go.bits .andNot .u8 (rd x0 0) x352000) % 4294967296) ((x0.take ((wrap64 (1 + x352002)) : Int).toNat).drop 1) (((x0.take ((wrap64 (1 + x352002)) : Int).toNat).drop 1).length : Int) 0 x352000 x352001 x352002 x352003) else (none)) else (none)) else (none))
def text_sign.l1 : Nat → Int → List Int → Int → Int → Int → Int → Int → Int → Option (Int)
  | 0, _, _, _, _, _, _, _, _ => none
  | k + 1, x5, x41, x42, x43, x352000, x352001, x352002, x352003 => if x43 < x42 then (if 0 ≤ x43 then (if x43 < (x41.length : Int) then (if (Go.bits .and .u8 (rd x41 x43) 192) = 128 then (text_sign.l1 k (Go.bits .or .u32 ((x5 * 64) % 4294967296) ((Go.bits .and .u8 (rd x41 x43) 63) % 4294967296)) x41 x42 (wrap64 (x43 + 1)) x352000 x352001 x352002 x352003) else (some 0)) else (none)) else (none)) else (if x5 < x352003 then (some 0) else (if x5 ≥ 55296 then (if x5 ≤ 57343 then (some 0) else (if x5 > 1114111 then (some 0) else (some (wrap64 (1 + x352002))))) else (if x5 > 1114111 then (some 0) else (some (wrap64 (1 + x352002))))))
end
def text_sign.f (k : Nat) (l0 : List Int) : Option (Int) := (text_kinds.f).bind fun t347 => (text_sign.l0 k l0 t347 (t347.length : Int) 0)
theorem text_sign.mono_l : ∀ k, (∀ y0 y1 y2 y3, LeO (text_sign.l0 k y0 y1 y2 y3) (text_sign.l0 (k + 1) y0 y1 y2 y3)) ∧ (∀ y0 y1 y2 y3 y4 y5 y6 y7 y8, LeO (text_sign.j1 k y0 y1 y2 y3 y4 y5 y6 y7 y8) (text_sign.j1 (k + 1) y0 y1 y2 y3 y4 y5 y6 y7 y8)) ∧ (∀ y0 y1 y2 y3 y4 y5 y6 y7, LeO (text_sign.l1 k y0 y1 y2 y3 y4 y5 y6 y7) (text_sign.l1 (k + 1) y0 y1 y2 y3 y4 y5 y6 y7))
  | 0 => ⟨fun _ _ _ _ r h => by simp [text_sign.l0] at h, fun _ _ _ _ _ _ _ _ _ r h => by simp [text_sign.j1] at h, fun _ _ _ _ _ _ _ _ r h => by simp [text_sign.l1] at h⟩
  | k + 1 => by
    obtain ⟨ih0, ih1, ih2⟩ := text_sign.mono_l k
    refine ⟨?_, ?_, ?_⟩
    · intro y0 y1 y2 y3
      unfold text_sign.l0
      repeat' first
      | (with_reducible exact ih0 _ _ _ _)
      | (with_reducible exact ih1 _ _ _ _ _ _ _ _ _)
      | (with_reducible exact ih2 _ _ _ _ _ _ _ _)
      | (with_reducible exact LeO.refl _)
      | (with_reducible exact LeO.none _)
      | (with_reducible refine LeO.ite ?_ ?_)
      | (with_reducible refine LeO.bind ?_ (fun _ => ?_))
      | exact ih0 _ _ _ _
      | exact ih1 _ _ _ _ _ _ _ _ _
      | exact ih2 _ _ _ _ _ _ _ _
      | exact LeO.none _
      | refine LeO.ite ?_ ?_
      | refine LeO.bind ?_ (fun _ => ?_)
    · intro y0 y1 y2 y3 y4 y5 y6 y7 y8
      unfold text_sign.j1
      repeat' first
      | (with_reducible exact ih0 _ _ _ _)
      | (with_reducible exact ih1 _ _ _ _ _ _ _ _ _)
      | (with_reducible exact ih2 _ _ _ _ _ _ _ _)
      | (with_reducible exact LeO.refl _)
      | (with_reducible exact LeO.none _)
      | (with_reducible refine LeO.ite ?_ ?_)
      | (with_reducible refine LeO.bind ?_ (fun _ => ?_))
      | exact ih0 _ _ _ _
      | exact ih1 _ _ _ _ _ _ _ _ _
      | exact ih2 _ _ _ _ _ _ _ _
      | exact LeO.none _
      | refine LeO.ite ?_ ?_
      | refine LeO.bind ?_ (fun _ => ?_)
    · intro y0 y1 y2 y3 y4 y5 y6 y7
      unfold text_sign.l1
      repeat' first
      | (with_reducible exact ih0 _ _ _ _)
      | (with_reducible exact ih1 _ _ _ _ _ _ _ _ _)
      | (with_reducible exact ih2 _ _ _ _ _ _ _ _)
      | (with_reducible exact LeO.refl _)
      | (with_reducible exact LeO.none _)
      | (with_reducible refine LeO.ite ?_ ?_)
      | (with_reducible refine LeO.bind ?_ (fun _ => ?_))
      | exact ih0 _ _ _ _
      | exact ih1 _ _ _ _ _ _ _ _ _
      | exact ih2 _ _ _ _ _ _ _ _
      | exact LeO.none _
      | refine LeO.ite ?_ ?_
      | refine LeO.bind ?_ (fun _ => ?_)
theorem text_sign.mono : ∀ a0 k, LeO (text_sign.f k a0) (text_sign.f (k + 1) a0) := by
  intro a0 k
  obtain ⟨ih0, ih1, ih2⟩ := text_sign.mono_l k
  unfold text_sign.f
  repeat' first
      | (with_reducible exact ih0 _ _ _ _)
      | (with_reducible exact ih1 _ _ _ _ _ _ _ _ _)
      | (with_reducible exact ih2 _ _ _ _ _ _ _ _)
      | (with_reducible exact LeO.refl _)
      | (with_reducible exact LeO.none _)
      | (with_reducible refine LeO.ite ?_ ?_)
      | (with_reducible refine LeO.bind ?_ (fun _ => ?_))
      | exact ih0 _ _ _ _
      | exact ih1 _ _ _ _ _ _ _ _ _
      | exact ih2 _ _ _ _ _ _ _ _
      | exact LeO.none _
      | refine LeO.ite ?_ ?_
      | refine LeO.bind ?_ (fun _ => ?_)
set_option maxHeartbeats 8000000 in
set_option maxRecDepth 100000 in
theorem text_sign.calls (k : Nat) (A0 : Option Addr) (c0 : Nat) (l0 : List Int) (r : Int) (w : World) (hr0 : Kd.C (Kd.int .u8) w A0 l0.length l0) (hc0 : l0.length ≤ c0) (h : text_sign.f k l0 = some r) :
    Calls Tryz.prog 212 #[.slice A0 l0.length c0] w fun e w' => e = .returned (.int .i64 r) ∧ Below w.heap.size w w' := by
  have hu231 := Tryz.underlying231
  have HR0 := Aside0.mk hr0
  have HC0 := Aside0.mk hc0
  clear hr0 hc0
  have HB := Aside0.mk (Below.refl w.heap.size w)
  have H : ((text_kinds.f).bind fun t347 => (text_sign.l0 k l0 t347 (t347.length : Int) 0)) = some r := h
  clear h
  replace H := Option.bind_eq_some_iff.mp H
  obtain ⟨t347, A20, H⟩ := H
  replace H : (text_sign.l0 k l0 t347 (t347.length : Int) 0) = some r := H
  have A2 := Aside0.mk A20
  clear A20
  have H' := Aside0.mk H
  clear H
  go_enter Tryz.func212, Tryz.ntmps212
  go_wp2_with (first | (go_at_call 222; (with_reducible refine (text_kinds.calls  t347 _ A2.out).mono ?_); rintro e w3 ⟨v348, rfl, ho0, hb⟩; have n0_ := Aside0.mk (Kd.R_lower ho0 (below_size (by repeat (first | (with_reducible first | exact HB.out | apply below_alloc | apply pw_below_drewN | apply below_drew1) | exact HB.out)))); have n1_ := Aside0.mk (below_step (by repeat (first | (with_reducible first | exact HB.out | apply below_alloc | apply pw_below_drewN | apply below_drew1) | exact HB.out)) hb); clear HB; have HO349 := n0_; have HB := n1_; clear n0_ n1_; (try clear hb); (try clear hb2); (try clear hk); (try clear hi); (try clear ho0); obtain ⟨Ao4, co4, eo4⟩ := Kd.R_slice HO349.out; subst eo4))
  repeat (go_quiet (first | (go_at_call 222; (with_reducible refine (text_kinds.calls  t347 _ A2.out).mono ?_); rintro e w3 ⟨v348, rfl, ho0, hb⟩; have n0_ := Aside0.mk (Kd.R_lower ho0 (below_size (by repeat (first | (with_reducible first | exact HB.out | apply below_alloc | apply pw_below_drewN | apply below_drew1) | exact HB.out)))); have n1_ := Aside0.mk (below_step (by repeat (first | (with_reducible first | exact HB.out | apply below_alloc | apply pw_below_drewN | apply below_drew1) | exact HB.out)) hb); clear HB; have HO349 := n0_; have HB := n1_; clear n0_ n1_; (try clear hb); (try clear hb2); (try clear hk); (try clear hi); (try clear ho0); obtain ⟨Ao4, co4, eo4⟩ := Kd.R_slice HO349.out; subst eo4)); try go_wp2_with (first | (go_at_call 222; (with_reducible refine (text_kinds.calls  t347 _ A2.out).mono ?_); rintro e w3 ⟨v348, rfl, ho0, hb⟩; have n0_ := Aside0.mk (Kd.R_lower ho0 (below_size (by repeat (first | (with_reducible first | exact HB.out | apply below_alloc | apply pw_below_drewN | apply below_drew1) | exact HB.out)))); have n1_ := Aside0.mk (below_step (by repeat (first | (with_reducible first | exact HB.out | apply below_alloc | apply pw_below_drewN | apply below_drew1) | exact HB.out)) hb); clear HB; have HO349 := n0_; have HB := n1_; clear n0_ n1_; (try clear hb); (try clear hb2); (try clear hk); (try clear hi); (try clear ho0); obtain ⟨Ao4, co4, eo4⟩ := Kd.R_slice HO349.out; subst eo4)))
  go_loopg [10] k (fun kq v10 w' => ∃ (x10_1 : Int), v10 = .int .i64 x10_1 ∧ Aside0 (text_sign.l0 kq l0 t347 (t347.length : Int) x10_1 = some r) ∧ Aside0 (kq ≤ k) ∧ Aside0 (Kd.R k231 231 w' w.heap.size (fun _ => True) (.slice Ao4 t347.length co4) t347) ∧ Aside0 (Below w.heap.size w w'))
  case atStart => exact ⟨(0), (by first | rfl | (simp; done) | (simp [*]; done)), H', ⟨Nat.le_refl _⟩, ⟨by (with_reducible repeat (first | apply Kd.R_alloc | apply Kd.R_drewN | apply Kd.R_drew)); exact HO349.out⟩, ⟨by repeat (first | (with_reducible first | exact HB.out | apply below_alloc | apply pw_below_drewN | apply below_drew1) | exact HB.out)⟩⟩
  case round =>
    clear H'
    try clear c2
    try clear p2
    obtain ⟨x10_1, rfl, HA, HK1, HO_8, HB⟩ := hrel
    cases gk with
    | zero => exact absurd HA.out (by simp [text_sign.l0])
    | succ k1 =>
      have H := HA.out
      clear HA
      simp only [text_sign.l0] at H
      by_cases c5 : x10_1 < (t347.length : Int)
      · rw [if_pos c5] at H
        have c5b0 : decide (x10_1 < (t347.length : Int)) = true := decide_eq_true c5
        clear c5
        by_cases c6 : 0 ≤ x10_1
        · rw [if_pos c6] at H
          have c6b0 : decide (0 ≤ x10_1) = true := decide_eq_true c6
          clear c6
          by_cases c7 : x10_1 < (t347.length : Int)
          · rw [if_pos c7] at H
            have c7b0 : decide (x10_1 < (t347.length : Int)) = true := decide_eq_true c7
            clear c7
            have HC8 := Aside0.mk H
            clear H
            have p350 : 0 ≤ (x10_1 : Int) := of_decide_eq_true (by first | (with_reducible assumption) | assumption)
            have q350 : x10_1 < (t347.length : Int) := of_decide_eq_true (by first | (with_reducible assumption) | assumption)
            obtain ⟨ad350, e350, hx350_0, hx350_1, hx350_2, hx350_3⟩ := at_T231 (Kd.R_reads' HO_8.out).2.2 x10_1 p350 q350
            cases e350
            replace p350 := eq_true p350
            replace q350 := eq_true q350
            go_upto_region 4 with (first | ((with_reducible refine gate_dst (N := 4) rfl ?_); (try (refine gate_guard (by rfl) ?_; dsimp only)); refine box_event ?hg (N := 4) ?hd (cs := #[.int .u8 0, .int .u8 0, .int .i64 0, .int .u32 0]) (t := 231) ?hr ?_; (case hd => rfl); (case hg => rfl); (case hr => first | (go_simp; done) | (go_simp; rfl)); intro gb351 hg w9 hbox hb; have n0_ := Aside0.mk (Kd.R_below (Kd.R_elderB (by (with_reducible repeat (first | apply Kd.R_alloc | apply Kd.R_drewN | apply Kd.R_drew)); exact HO_8.out) gb351 (Nat.le_of_eq hg.symm)) hb); have n1_ := Aside0.mk (below_step (by repeat (first | (with_reducible first | exact HB.out | apply below_alloc | apply pw_below_drewN | apply below_drew1) | exact HB.out)) hb); have n2_ := Aside0.mk (hbox); have n3_ := Aside0.mk ((by rw [hg]; exact (below_size (by repeat (first | (with_reducible first | exact HB.out | apply below_alloc | apply pw_below_drewN | apply below_drew1) | exact HB.out))) : w.heap.size ≤ gb351)); have n4_ := Aside0.mk ((by rw [hg]; exact (below_size (by repeat (first | (with_reducible first | exact HB.out | apply below_alloc | apply pw_below_drewN | apply below_drew1) | exact HB.out))) : w.heap.size ≤ gb351)); clear HO_8; clear HB; have HO_8 := n0_; have HB := n1_; have BK351 := n2_; have GW351 := n3_; have GE351 := n4_; clear n0_ n1_ n2_ n3_ n4_; clear hb hbox hg; have hcz10_0 : w9.cell? ⟨gb351, 0, none⟩ = some (.int .u8 0) := (blk_cell BK351.out 0).trans rfl; have hcz10_1 : w9.cell? ⟨gb351, 1, none⟩ = some (.int .u8 0) := (blk_cell BK351.out 1).trans rfl; have hcz10_2 : w9.cell? ⟨gb351, 2, none⟩ = some (.int .i64 0) := (blk_cell BK351.out 2).trans rfl; have hcz10_3 : w9.cell? ⟨gb351, 3, none⟩ = some (.int .u32 0) := (blk_cell BK351.out 3).trans rfl; have hfz10_0 := blk_frozen BK351.out 0; have hfz10_1 := blk_frozen BK351.out 1; have hfz10_2 := blk_frozen BK351.out 2; have hfz10_3 := blk_frozen BK351.out 3))
            repeat (go_quiet (first | ((with_reducible refine gate_dst (N := 4) rfl ?_); (try (refine gate_guard (by rfl) ?_; dsimp only)); refine box_event ?hg (N := 4) ?hd (cs := #[.int .u8 0, .int .u8 0, .int .i64 0, .int .u32 0]) (t := 231) ?hr ?_; (case hd => rfl); (case hg => rfl); (case hr => first | (go_simp; done) | (go_simp; rfl)); intro gb351 hg w9 hbox hb; have n0_ := Aside0.mk (Kd.R_below (Kd.R_elderB (by (with_reducible repeat (first | apply Kd.R_alloc | apply Kd.R_drewN | apply Kd.R_drew)); exact HO_8.out) gb351 (Nat.le_of_eq hg.symm)) hb); have n1_ := Aside0.mk (below_step (by repeat (first | (with_reducible first | exact HB.out | apply below_alloc | apply pw_below_drewN | apply below_drew1) | exact HB.out)) hb); have n2_ := Aside0.mk (hbox); have n3_ := Aside0.mk ((by rw [hg]; exact (below_size (by repeat (first | (with_reducible first | exact HB.out | apply below_alloc | apply pw_below_drewN | apply below_drew1) | exact HB.out))) : w.heap.size ≤ gb351)); have n4_ := Aside0.mk ((by rw [hg]; exact (below_size (by repeat (first | (with_reducible first | exact HB.out | apply below_alloc | apply pw_below_drewN | apply below_drew1) | exact HB.out))) : w.heap.size ≤ gb351)); clear HO_8; clear HB; have HO_8 := n0_; have HB := n1_; have BK351 := n2_; have GW351 := n3_; have GE351 := n4_; clear n0_ n1_ n2_ n3_ n4_; clear hb hbox hg; have hcz10_0 : w9.cell? ⟨gb351, 0, none⟩ = some (.int .u8 0) := (blk_cell BK351.out 0).trans rfl; have hcz10_1 : w9.cell? ⟨gb351, 1, none⟩ = some (.int .u8 0) := (blk_cell BK351.out 1).trans rfl; have hcz10_2 : w9.cell? ⟨gb351, 2, none⟩ = some (.int .i64 0) := (blk_cell BK351.out 2).trans rfl; have hcz10_3 : w9.cell? ⟨gb351, 3, none⟩ = some (.int .u32 0) := (blk_cell BK351.out 3).trans rfl; have hfz10_0 := blk_frozen BK351.out 0; have hfz10_1 := blk_frozen BK351.out 1; have hfz10_2 := blk_frozen BK351.out 2; have hfz10_3 := blk_frozen BK351.out 3)); go_upto_region 4 with (first | ((with_reducible refine gate_dst (N := 4) rfl ?_); (try (refine gate_guard (by rfl) ?_; dsimp only)); refine box_event ?hg (N := 4) ?hd (cs := #[.int .u8 0, .int .u8 0, .int .i64 0, .int .u32 0]) (t := 231) ?hr ?_; (case hd => rfl); (case hg => rfl); (case hr => first | (go_simp; done) | (go_simp; rfl)); intro gb351 hg w9 hbox hb; have n0_ := Aside0.mk (Kd.R_below (Kd.R_elderB (by (with_reducible repeat (first | apply Kd.R_alloc | apply Kd.R_drewN | apply Kd.R_drew)); exact HO_8.out) gb351 (Nat.le_of_eq hg.symm)) hb); have n1_ := Aside0.mk (below_step (by repeat (first | (with_reducible first | exact HB.out | apply below_alloc | apply pw_below_drewN | apply below_drew1) | exact HB.out)) hb); have n2_ := Aside0.mk (hbox); have n3_ := Aside0.mk ((by rw [hg]; exact (below_size (by repeat (first | (with_reducible first | exact HB.out | apply below_alloc | apply pw_below_drewN | apply below_drew1) | exact HB.out))) : w.heap.size ≤ gb351)); have n4_ := Aside0.mk ((by rw [hg]; exact (below_size (by repeat (first | (with_reducible first | exact HB.out | apply below_alloc | apply pw_below_drewN | apply below_drew1) | exact HB.out))) : w.heap.size ≤ gb351)); clear HO_8; clear HB; have HO_8 := n0_; have HB := n1_; have BK351 := n2_; have GW351 := n3_; have GE351 := n4_; clear n0_ n1_ n2_ n3_ n4_; clear hb hbox hg; have hcz10_0 : w9.cell? ⟨gb351, 0, none⟩ = some (.int .u8 0) := (blk_cell BK351.out 0).trans rfl; have hcz10_1 : w9.cell? ⟨gb351, 1, none⟩ = some (.int .u8 0) := (blk_cell BK351.out 1).trans rfl; have hcz10_2 : w9.cell? ⟨gb351, 2, none⟩ = some (.int .i64 0) := (blk_cell BK351.out 2).trans rfl; have hcz10_3 : w9.cell? ⟨gb351, 3, none⟩ = some (.int .u32 0) := (blk_cell BK351.out 3).trans rfl; have hfz10_0 := blk_frozen BK351.out 0; have hfz10_1 := blk_frozen BK351.out 1; have hfz10_2 := blk_frozen BK351.out 2; have hfz10_3 := blk_frozen BK351.out 3)))
            (try simp only [Act.put, List.setIfInBounds_toArray, List.set_cons_zero, List.set_cons_succ])
            go_cut [29] (fun v29 wc => ∃ (kq : Nat) (x29_7 : Bool), v29 = .bool x29_7 ∧ Aside0 (text_sign.j1 kq l0 t347 (t347.length : Int) x10_1 x29_7 ((rd_T231 t347 x10_1).f0) ((rd_T231 t347 x10_1).f1) ((rd_T231 t347 x10_1).f2) ((rd_T231 t347 x10_1).f3) = some r) ∧ Aside0 (kq ≤ k1) ∧ Aside0 (Kd.R k231 231 wc w.heap.size (fun k_ => k_ ≠ gb351) (.slice (some ad350) t347.length co4) t347) ∧ Aside0 (wc.heap[gb351]? = some (.cells #[.int .u8 ((rd_T231 t347 x10_1).f0), .int .u8 ((rd_T231 t347 x10_1).f1), .int .i64 ((rd_T231 t347 x10_1).f2), .int .u32 ((rd_T231 t347 x10_1).f3)] 231 (0, 0))) ∧ Aside0 (Below w.heap.size w wc))
            case first =>
              have H := HC8.out
              clear HC8
              by_cases c11 : 0 < (l0.length : Int)
              · rw [if_pos c11] at H
                have c11b0 : decide (0 < (l0.length : Int)) = true := decide_eq_true c11
                have c11b1 : decide (0 < l0.length) = true := decide_eq_true (by omega)
                clear c11
                (first | rw [c11b0] | (simp only [i64_w, i32_w]; rw [c11b0]) | skip)
                by_cases c12 : (Go.bits .and .u8 (rd l0 0) ((rd_T231 t347 x10_1).f0)) = ((rd_T231 t347 x10_1).f1)
                · rw [if_pos c12] at H
                  have c12b0 : ((Go.bits .and .u8 (rd l0 0) ((rd_T231 t347 x10_1).f0)) == ((rd_T231 t347 x10_1).f1)) = true := beq_iff_eq.mpr c12
                  have c12b1 : ((Go.bits .and .u8 (rd l0 0) ((rd_T231 t347 x10_1).f0)) != ((rd_T231 t347 x10_1).f1)) = false := bne_eq_false_iff_eq.mpr c12
                  clear c12
                  have H' := Aside0.mk H
                  clear H
                  have p352 : 0 ≤ (0 : Int) := (by omega)
                  have q352 : 0 < (l0.length : Int) := of_decide_eq_true (by first | (with_reducible assumption) | assumption)
                  obtain ⟨ad352, e352, hx352_0⟩ := Kd.at_int HR0.out 0 p352 q352
                  cases e352
                  have qi352 : (0 < l0.length) = True := eq_true (by omega)
                  (try rw [show ((0 : Int)).toNat = 0 from rfl] at hx352_0)
                  (try rw [Addr.add_zero'] at hx352_0)
                  have hn352_0 : ad352.block ≠ gb351 := Nat.ne_of_lt (Nat.lt_of_lt_of_le (by have := World.block_lt_of_cell? _ _ hx352_0; first | rwa [add_block] at this | exact this) GW351.out)
                  have hn352_1 : ad352.block ≠ gb351 := Nat.ne_of_lt (Nat.lt_of_lt_of_le (by have := World.block_lt_of_cell? _ _ hx352_0; first | rwa [add_block] at this | exact this) GW351.out)
                  have hn352_2 : ad352.block ≠ gb351 := Nat.ne_of_lt (Nat.lt_of_lt_of_le (by have := World.block_lt_of_cell? _ _ hx352_0; first | rwa [add_block] at this | exact this) GW351.out)
                  have hn352_3 : ad352.block ≠ gb351 := Nat.ne_of_lt (Nat.lt_of_lt_of_le (by have := World.block_lt_of_cell? _ _ hx352_0; first | rwa [add_block] at this | exact this) GW351.out)
                  replace hx352_0 := (HB.out.cell (World.block_lt_of_cell? w _ hx352_0)).trans hx352_0
                  replace hx352_0 := (cell_far (p := ⟨gb351, 0, none⟩) (by first | (rw [add_block]; exact hn352_0) | (show (Addr.add _ _).block ≠ _; rw [add_block]; exact hn352_0) | exact hn352_0) (.int .u8 ((rd_T231 t347 x10_1).f0))).trans hx352_0
                  replace hx352_0 := (cell_far (p := ⟨gb351, 1, none⟩) (by first | (rw [add_block]; exact hn352_1) | (show (Addr.add _ _).block ≠ _; rw [add_block]; exact hn352_1) | exact hn352_1) (.int .u8 ((rd_T231 t347 x10_1).f1))).trans hx352_0
                  replace hx352_0 := (cell_far (p := ⟨gb351, 2, none⟩) (by first | (rw [add_block]; exact hn352_2) | (show (Addr.add _ _).block ≠ _; rw [add_block]; exact hn352_2) | exact hn352_2) (.int .i64 ((rd_T231 t347 x10_1).f2))).trans hx352_0
                  replace hx352_0 := (cell_far (p := ⟨gb351, 3, none⟩) (by first | (rw [add_block]; exact hn352_3) | (show (Addr.add _ _).block ≠ _; rw [add_block]; exact hn352_3) | exact hn352_3) (.int .u32 ((rd_T231 t347 x10_1).f3))).trans hx352_0
                  (try have hy352_0 := fun (n_ : Nat) => (show ((((((w9.drewN n_).setCell ⟨gb351, 0, none⟩ (.int .u8 ((rd_T231 t347 x10_1).f0))).setCell ⟨gb351, 1, none⟩ (.int .u8 ((rd_T231 t347 x10_1).f1))).setCell ⟨gb351, 2, none⟩ (.int .i64 ((rd_T231 t347 x10_1).f2))).setCell ⟨gb351, 3, none⟩ (.int .u32 ((rd_T231 t347 x10_1).f3)))).cell? _ = some _ from hx352_0))
                  clear hn352_0
                  clear hn352_1
                  clear hn352_2
                  clear hn352_3
                  replace p352 := eq_true p352
                  replace q352 := eq_true q352
                  have hcz13_0 : w9.cell? ⟨gb351, 0, none⟩ = some (.int .u8 0) := (blk_cell BK351.out 0).trans rfl
                  have hcz13_1 : w9.cell? ⟨gb351, 1, none⟩ = some (.int .u8 0) := (blk_cell BK351.out 1).trans rfl
                  have hcz13_2 : w9.cell? ⟨gb351, 2, none⟩ = some (.int .i64 0) := (blk_cell BK351.out 2).trans rfl
                  have hcz13_3 : w9.cell? ⟨gb351, 3, none⟩ = some (.int .u32 0) := (blk_cell BK351.out 3).trans rfl
                  have hfz13_0 := blk_frozen BK351.out 0
                  have hfz13_1 := blk_frozen BK351.out 1
                  have hfz13_2 := blk_frozen BK351.out 2
                  have hfz13_3 := blk_frozen BK351.out 3
                  go_wp2
                  repeat (go_quiet (fail); try go_wp2)
                  go_meet
                  case rel => exact ⟨_, (decide ((l0.length : Int) ≤ ((rd_T231 t347 x10_1).f2))), (by first | rfl | (simp; done) | (simp [*]; done)), H', ⟨by have := HK1.out; first | omega | exact Nat.le_refl _⟩, ⟨by (with_reducible repeat (first | apply Kd.R_alloc | apply Kd.R_drewN | apply Kd.R_drew)); exact Kd.R_mono (Kd.R_far (p := ⟨gb351, 3, none⟩) (Kd.R_far (p := ⟨gb351, 2, none⟩) (Kd.R_far (p := ⟨gb351, 1, none⟩) (Kd.R_far (p := ⟨gb351, 0, none⟩) (Kd.R_mono HO_8.out (fun k_ hk => (⟨hk, hk.2⟩ : _ ∧ k_ ≠ gb351))) (fun _ hk => hk.2) (.int .u8 ((rd_T231 t347 x10_1).f0))) (fun _ hk => hk.2) (.int .u8 ((rd_T231 t347 x10_1).f1))) (fun _ hk => hk.2) (.int .i64 ((rd_T231 t347 x10_1).f2))) (fun _ hk => hk.2) (.int .u32 ((rd_T231 t347 x10_1).f3))) (fun _ hk => hk.1.2)⟩, ⟨by (with_reducible repeat (first | refine blk_drewN ?_ _ | refine blk_drew ?_ | refine blk_alloc ?_ _)); refine blk_put (cs := #[.int .u8 ((rd_T231 t347 x10_1).f0), .int .u8 ((rd_T231 t347 x10_1).f1), .int .i64 ((rd_T231 t347 x10_1).f2), .int .u32 0]) ?_ 3 _ rfl; (with_reducible repeat (first | refine blk_drewN ?_ _ | refine blk_drew ?_ | refine blk_alloc ?_ _)); refine blk_put (cs := #[.int .u8 ((rd_T231 t347 x10_1).f0), .int .u8 ((rd_T231 t347 x10_1).f1), .int .i64 0, .int .u32 0]) ?_ 2 _ rfl; (with_reducible repeat (first | refine blk_drewN ?_ _ | refine blk_drew ?_ | refine blk_alloc ?_ _)); refine blk_put (cs := #[.int .u8 ((rd_T231 t347 x10_1).f0), .int .u8 0, .int .i64 0, .int .u32 0]) ?_ 1 _ rfl; (with_reducible repeat (first | refine blk_drewN ?_ _ | refine blk_drew ?_ | refine blk_alloc ?_ _)); refine blk_put (cs := #[.int .u8 0, .int .u8 0, .int .i64 0, .int .u32 0]) ?_ 0 _ rfl; (with_reducible repeat (first | refine blk_drewN ?_ _ | refine blk_drew ?_ | refine blk_alloc ?_ _)); exact BK351.out⟩, ⟨by repeat (first | (with_reducible first | exact HB.out | apply below_alloc | apply pw_below_drewN | apply below_drew1 | refine below_set ?_ GE351.out) | exact HB.out)⟩⟩
                · rw [if_neg c12] at H
                  have c12b0 : ((Go.bits .and .u8 (rd l0 0) ((rd_T231 t347 x10_1).f0)) == ((rd_T231 t347 x10_1).f1)) = false := beq_eq_false_iff_ne.mpr c12
                  have c12b1 : ((Go.bits .and .u8 (rd l0 0) ((rd_T231 t347 x10_1).f0)) != ((rd_T231 t347 x10_1).f1)) = true := bne_iff_ne.mpr c12
                  have H' := Aside0.mk H
                  clear H
                  have p352 : 0 ≤ (0 : Int) := (by omega)
                  have q352 : 0 < (l0.length : Int) := of_decide_eq_true (by first | (with_reducible assumption) | assumption)
                  obtain ⟨ad352, e352, hx352_0⟩ := Kd.at_int HR0.out 0 p352 q352
                  cases e352
                  have qi352 : (0 < l0.length) = True := eq_true (by omega)
                  (try rw [show ((0 : Int)).toNat = 0 from rfl] at hx352_0)
                  (try rw [Addr.add_zero'] at hx352_0)
                  have hn352_0 : ad352.block ≠ gb351 := Nat.ne_of_lt (Nat.lt_of_lt_of_le (by have := World.block_lt_of_cell? _ _ hx352_0; first | rwa [add_block] at this | exact this) GW351.out)
                  have hn352_1 : ad352.block ≠ gb351 := Nat.ne_of_lt (Nat.lt_of_lt_of_le (by have := World.block_lt_of_cell? _ _ hx352_0; first | rwa [add_block] at this | exact this) GW351.out)
                  have hn352_2 : ad352.block ≠ gb351 := Nat.ne_of_lt (Nat.lt_of_lt_of_le (by have := World.block_lt_of_cell? _ _ hx352_0; first | rwa [add_block] at this | exact this) GW351.out)
                  have hn352_3 : ad352.block ≠ gb351 := Nat.ne_of_lt (Nat.lt_of_lt_of_le (by have := World.block_lt_of_cell? _ _ hx352_0; first | rwa [add_block] at this | exact this) GW351.out)
                  replace hx352_0 := (HB.out.cell (World.block_lt_of_cell? w _ hx352_0)).trans hx352_0
                  replace hx352_0 := (cell_far (p := ⟨gb351, 0, none⟩) (by first | (rw [add_block]; exact hn352_0) | (show (Addr.add _ _).block ≠ _; rw [add_block]; exact hn352_0) | exact hn352_0) (.int .u8 ((rd_T231 t347 x10_1).f0))).trans hx352_0
                  replace hx352_0 := (cell_far (p := ⟨gb351, 1, none⟩) (by first | (rw [add_block]; exact hn352_1) | (show (Addr.add _ _).block ≠ _; rw [add_block]; exact hn352_1) | exact hn352_1) (.int .u8 ((rd_T231 t347 x10_1).f1))).trans hx352_0
                  replace hx352_0 := (cell_far (p := ⟨gb351, 2, none⟩) (by first | (rw [add_block]; exact hn352_2) | (show (Addr.add _ _).block ≠ _; rw [add_block]; exact hn352_2) | exact hn352_2) (.int .i64 ((rd_T231 t347 x10_1).f2))).trans hx352_0
                  replace hx352_0 := (cell_far (p := ⟨gb351, 3, none⟩) (by first | (rw [add_block]; exact hn352_3) | (show (Addr.add _ _).block ≠ _; rw [add_block]; exact hn352_3) | exact hn352_3) (.int .u32 ((rd_T231 t347 x10_1).f3))).trans hx352_0
                  (try have hy352_0 := fun (n_ : Nat) => (show ((((((w9.drewN n_).setCell ⟨gb351, 0, none⟩ (.int .u8 ((rd_T231 t347 x10_1).f0))).setCell ⟨gb351, 1, none⟩ (.int .u8 ((rd_T231 t347 x10_1).f1))).setCell ⟨gb351, 2, none⟩ (.int .i64 ((rd_T231 t347 x10_1).f2))).setCell ⟨gb351, 3, none⟩ (.int .u32 ((rd_T231 t347 x10_1).f3)))).cell? _ = some _ from hx352_0))
                  clear hn352_0
                  clear hn352_1
                  clear hn352_2
                  clear hn352_3
                  replace p352 := eq_true p352
                  replace q352 := eq_true q352
                  have hcz14_0 : w9.cell? ⟨gb351, 0, none⟩ = some (.int .u8 0) := (blk_cell BK351.out 0).trans rfl
                  have hcz14_1 : w9.cell? ⟨gb351, 1, none⟩ = some (.int .u8 0) := (blk_cell BK351.out 1).trans rfl
                  have hcz14_2 : w9.cell? ⟨gb351, 2, none⟩ = some (.int .i64 0) := (blk_cell BK351.out 2).trans rfl
                  have hcz14_3 : w9.cell? ⟨gb351, 3, none⟩ = some (.int .u32 0) := (blk_cell BK351.out 3).trans rfl
                  have hfz14_0 := blk_frozen BK351.out 0
                  have hfz14_1 := blk_frozen BK351.out 1
                  have hfz14_2 := blk_frozen BK351.out 2
                  have hfz14_3 := blk_frozen BK351.out 3
                  go_wp2
                  repeat (go_quiet (fail); try go_wp2)
                  go_meet
                  case rel => exact ⟨_, (true), (by first | rfl | (simp; done) | (simp [*]; done)), H', ⟨by have := HK1.out; first | omega | exact Nat.le_refl _⟩, ⟨by (with_reducible repeat (first | apply Kd.R_alloc | apply Kd.R_drewN | apply Kd.R_drew)); exact Kd.R_mono (Kd.R_far (p := ⟨gb351, 3, none⟩) (Kd.R_far (p := ⟨gb351, 2, none⟩) (Kd.R_far (p := ⟨gb351, 1, none⟩) (Kd.R_far (p := ⟨gb351, 0, none⟩) (Kd.R_mono HO_8.out (fun k_ hk => (⟨hk, hk.2⟩ : _ ∧ k_ ≠ gb351))) (fun _ hk => hk.2) (.int .u8 ((rd_T231 t347 x10_1).f0))) (fun _ hk => hk.2) (.int .u8 ((rd_T231 t347 x10_1).f1))) (fun _ hk => hk.2) (.int .i64 ((rd_T231 t347 x10_1).f2))) (fun _ hk => hk.2) (.int .u32 ((rd_T231 t347 x10_1).f3))) (fun _ hk => hk.1.2)⟩, ⟨by (with_reducible repeat (first | refine blk_drewN ?_ _ | refine blk_drew ?_ | refine blk_alloc ?_ _)); refine blk_put (cs := #[.int .u8 ((rd_T231 t347 x10_1).f0), .int .u8 ((rd_T231 t347 x10_1).f1), .int .i64 ((rd_T231 t347 x10_1).f2), .int .u32 0]) ?_ 3 _ rfl; (with_reducible repeat (first | refine blk_drewN ?_ _ | refine blk_drew ?_ | refine blk_alloc ?_ _)); refine blk_put (cs := #[.int .u8 ((rd_T231 t347 x10_1).f0), .int .u8 ((rd_T231 t347 x10_1).f1), .int .i64 0, .int .u32 0]) ?_ 2 _ rfl; (with_reducible repeat (first | refine blk_drewN ?_ _ | refine blk_drew ?_ | refine blk_alloc ?_ _)); refine blk_put (cs := #[.int .u8 ((rd_T231 t347 x10_1).f0), .int .u8 0, .int .i64 0, .int .u32 0]) ?_ 1 _ rfl; (with_reducible repeat (first | refine blk_drewN ?_ _ | refine blk_drew ?_ | refine blk_alloc ?_ _)); refine blk_put (cs := #[.int .u8 0, .int .u8 0, .int .i64 0, .int .u32 0]) ?_ 0 _ rfl; (with_reducible repeat (first | refine blk_drewN ?_ _ | refine blk_drew ?_ | refine blk_alloc ?_ _)); exact BK351.out⟩, ⟨by repeat (first | (with_reducible first | exact HB.out | apply below_alloc | apply pw_below_drewN | apply below_drew1 | refine below_set ?_ GE351.out) | exact HB.out)⟩⟩
              · rw [if_neg c11] at H
                exact absurd H (by simp)
            case rest =>
              clear HC8
              try clear c1
              try clear c2
              try clear p2
              try clear p3
              try clear q3
              try clear hx3
              try clear qi3
              try clear c5
              try clear c5b0
              try clear c6
              try clear c6b0
              try clear c7
              try clear c7b0
              try clear c11
              try clear c11b0
              try clear c11b1
              try clear c12
              try clear c12b0
              try clear c12b1
              try clear hcz10_0
              try clear hcz10_1
              try clear hcz10_2
              try clear hcz10_3
              try clear hcz13_0
              try clear hcz13_1
              try clear hcz13_2
              try clear hcz13_3
              try clear hcz14_0
              try clear hcz14_1
              try clear hcz14_2
              try clear hcz14_3
              try clear hfz10_0
              try clear hfz10_1
              try clear hfz10_2
              try clear hfz10_3
              try clear hfz13_0
              try clear hfz13_1
              try clear hfz13_2
              try clear hfz13_3
              try clear hfz14_0
              try clear hfz14_1
              try clear hfz14_2
              try clear hfz14_3
              try clear hx350_0
              try clear hx350_1
              try clear hx350_2
              try clear hx350_3
              try clear hx352_0
              try clear p2
              try clear p350
              try clear p352
              try clear q350
              try clear q352
              obtain ⟨kq, x29_7, rfl, HA, HJ7, HO_8, BK351, HB⟩ := hcut
              cases kq with
              | zero => exact absurd HA.out (by simp [text_sign.j1])
              | succ kj7 =>
                have H := HA.out
                clear HA
                simp only [text_sign.j1] at H
                by_cases c15 : x29_7 = true
                · subst c15
                  have H1 : (text_sign.l0 kj7 l0 t347 (t347.length : Int) (wrap64 (x10_1 + 1))) = some r := by rw [if_pos rfl] at H; exact H
                  clear H
                  have H := H1
                  clear H1
                  have H' := Aside0.mk H
                  clear H
                  go_wp2
                  repeat (go_quiet (fail); try go_wp2)
                  go_roundg kj7
                  case measure => have := HK1.out; have := HJ7.out; omega
                  case rel => exact ⟨(wrap64 (x10_1 + 1)), (by first | rfl | (simp; done) | (simp [*]; done)), H', ⟨by have := HK1.out; have := HJ7.out; omega⟩, ⟨by (with_reducible repeat (first | apply Kd.R_alloc | apply Kd.R_drewN | apply Kd.R_drew)); exact Kd.R_mono HO_8.out (fun _ hk => trivial)⟩, ⟨by repeat (first | (with_reducible first | exact HB.out | apply below_alloc | apply pw_below_drewN | apply below_drew1 | refine below_set ?_ GE351.out) | exact HB.out)⟩⟩
                · replace c15 := Bool.eq_false_iff.mpr c15
                  subst c15
                  have H1 : (if 0 < (l0.length : Int) then (if 1 ≤ (wrap64 (1 + ((rd_T231 t347 x10_1).f2))) then (if (wrap64 (1 + ((rd_T231 t347 x10_1).f2))) ≤ (l0.length : Int) then (text_sign.l1 kj7 ((Go.bits .andNot .u8 (rd l0 0) ((rd_T231 t347 x10_1).f0)) % 4294967296) ((l0.take ((wrap64 (1 + ((rd_T231 t347 x10_1).f2))) : Int).toNat).drop 1) (((l0.take ((wrap64 (1 + ((rd_T231 t347 x10_1).f2))) : Int).toNat).drop 1).length : Int) 0 ((rd_T231 t347 x10_1).f0) ((rd_T231 t347 x10_1).f1) ((rd_T231 t347 x10_1).f2) ((rd_T231 t347 x10_1).f3)) else (none)) else (none)) else (none)) = some r := by rw [if_neg (show ¬ (false = true) by decide)] at H; exact H
                  clear H
                  have H := H1
                  clear H1
                  by_cases c16 : 0 < (l0.length : Int)
                  · rw [if_pos c16] at H
                    have c16b0 : decide (0 < (l0.length : Int)) = true := decide_eq_true c16
                    have c16b1 : decide (0 < l0.length) = true := decide_eq_true (by omega)
                    clear c16
                    by_cases c17 : 1 ≤ (wrap64 (1 + ((rd_T231 t347 x10_1).f2)))
                    · rw [if_pos c17] at H
                      have c17b0 := eq_true c17
                      have c17b1 : decide (1 ≤ (wrap64 (1 + ((rd_T231 t347 x10_1).f2)))) = true := decide_eq_true c17
                      by_cases c18 : (wrap64 (1 + ((rd_T231 t347 x10_1).f2))) ≤ (l0.length : Int)
                      · rw [if_pos c18] at H
                        have c18b0 := eq_true c18
                        have c18b1 : decide ((wrap64 (1 + ((rd_T231 t347 x10_1).f2))) ≤ (l0.length : Int)) = true := decide_eq_true c18
                        have H' := Aside0.mk H
                        clear H
                        have p353 : 0 ≤ (0 : Int) := (by omega)
                        have q353 : 0 < (l0.length : Int) := of_decide_eq_true (by first | (with_reducible assumption) | assumption)
                        obtain ⟨ad353, e353, hx353_0⟩ := Kd.at_int HR0.out 0 p353 q353
                        cases e353
                        have qi353 : (0 < l0.length) = True := eq_true (by omega)
                        (try rw [show ((0 : Int)).toNat = 0 from rfl] at hx353_0)
                        (try rw [Addr.add_zero'] at hx353_0)
                        replace hx353_0 := (HB.out.cell (World.block_lt_of_cell? w _ hx353_0)).trans hx353_0
                        replace p353 := eq_true p353
                        replace q353 := eq_true q353
                        have hcz19_0 : wc.cell? ⟨gb351, 0, none⟩ = some (.int .u8 ((rd_T231 t347 x10_1).f0)) := (blk_cell BK351.out 0).trans rfl
                        have hcz19_1 : wc.cell? ⟨gb351, 1, none⟩ = some (.int .u8 ((rd_T231 t347 x10_1).f1)) := (blk_cell BK351.out 1).trans rfl
                        have hcz19_2 : wc.cell? ⟨gb351, 2, none⟩ = some (.int .i64 ((rd_T231 t347 x10_1).f2)) := (blk_cell BK351.out 2).trans rfl
                        have hcz19_3 : wc.cell? ⟨gb351, 3, none⟩ = some (.int .u32 ((rd_T231 t347 x10_1).f3)) := (blk_cell BK351.out 3).trans rfl
                        have hfz19_0 := blk_frozen BK351.out 0
                        have hfz19_1 := blk_frozen BK351.out 1
                        have hfz19_2 := blk_frozen BK351.out 2
                        have hfz19_3 := blk_frozen BK351.out 3
                        obtain ⟨i020, hi020, _, hsz20, _⟩ := info_parts info5
                        obtain ⟨A20, hcut20, hA20, hC20⟩ := print_mid_of (P := Tryz.prog) (Value.int .u8) 0 51 5 .i64 .i64 Tryz.underlying51 hi020 hsz20 (some ad353) c0 l0 1 (wrap64 (1 + ((rd_T231 t347 x10_1).f2))) (by omega) (by first | omega | exact of_decide_eq_true (by first | (with_reducible assumption) | assumption)) (of_decide_eq_true (by first | (with_reducible assumption) | assumption)) HC0.out
                        have HR354 := Aside0.mk (Kd.C_of_reads (h1 := fun _ => rfl) (hA20 _ (Kd.reads_of_C HR0.out)))
                        have hl354 : (List.drop 1 (List.take (wrap64 (1 + (rd_T231 t347 x10_1).f2)).toNat l0)).length = (wrap64 (1 + (rd_T231 t347 x10_1).f2)).toNat - 1 := by have h_ : (wrap64 (1 + (rd_T231 t347 x10_1).f2)) ≤ (l0.length : Int) := of_decide_eq_true (by assumption); simp only [List.length_drop, List.length_take]; omega
                        have HC354 := Aside0.mk hC20
                        clear hA20 hC20 hi020 hsz20
                        go_wp2
                        repeat (go_quiet (fail); try go_wp2)
                        go_loopg [5, 43] kj7 (fun kq v5 v43 w' => ∃ (x5_3 : Int) (x43_3 : Int), v5 = .int .u32 x5_3 ∧ v43 = .int .i64 x43_3 ∧ Aside0 (text_sign.l1 kq x5_3 ((l0.take ((wrap64 (1 + ((rd_T231 t347 x10_1).f2))) : Int).toNat).drop 1) (((l0.take ((wrap64 (1 + ((rd_T231 t347 x10_1).f2))) : Int).toNat).drop 1).length : Int) x43_3 ((rd_T231 t347 x10_1).f0) ((rd_T231 t347 x10_1).f1) ((rd_T231 t347 x10_1).f2) ((rd_T231 t347 x10_1).f3) = some r) ∧ Aside0 (kq ≤ kj7) ∧ Aside0 (w'.heap[gb351]? = some (.cells #[.int .u8 ((rd_T231 t347 x10_1).f0), .int .u8 ((rd_T231 t347 x10_1).f1), .int .i64 ((rd_T231 t347 x10_1).f2), .int .u32 ((rd_T231 t347 x10_1).f3)] 231 (0, 0))) ∧ Aside0 (Below w.heap.size w w'))
                        case atStart => exact ⟨((Go.bits .andNot .u8 (rd l0 0) ((rd_T231 t347 x10_1).f0)) % 4294967296), (0), (by first | rfl | (simp; done) | (simp [*]; done)), (by first | rfl | (simp; done) | (simp [*]; done)), H', ⟨Nat.le_refl _⟩, ⟨by (with_reducible repeat (first | refine blk_drewN ?_ _ | refine blk_drew ?_ | refine blk_alloc ?_ _)); exact BK351.out⟩, ⟨by repeat (first | (with_reducible first | exact HB.out | apply below_alloc | apply pw_below_drewN | apply below_drew1 | refine below_set ?_ GE351.out) | exact HB.out)⟩⟩
                        case round =>
                          clear H'
                          try clear c1
                          try clear c2
                          try clear p2
                          try clear p3
                          try clear q3
                          try clear hx3
                          try clear qi3
                          try clear c5
                          try clear c5b0
                          try clear c6
                          try clear c6b0
                          try clear p6
                          try clear c7
                          try clear c7b0
                          try clear c11
                          try clear c11b0
                          try clear c11b1
                          try clear c12
                          try clear c12b0
                          try clear c12b1
                          try clear c15
                          try clear c16
                          try clear c16b0
                          try clear c16b1
                          try clear c17
                          try clear c17b0
                          try clear c17b1
                          try clear c18
                          try clear c18b0
                          try clear c18b1
                          try clear hcz10_0
                          try clear hcz10_1
                          try clear hcz10_2
                          try clear hcz10_3
                          try clear hcz13_0
                          try clear hcz13_1
                          try clear hcz13_2
                          try clear hcz13_3
                          try clear hcz14_0
                          try clear hcz14_1
                          try clear hcz14_2
                          try clear hcz14_3
                          try clear hcz19_0
                          try clear hcz19_1
                          try clear hcz19_2
                          try clear hcz19_3
                          try clear hfz10_0
                          try clear hfz10_1
                          try clear hfz10_2
                          try clear hfz10_3
                          try clear hfz13_0
                          try clear hfz13_1
                          try clear hfz13_2
                          try clear hfz13_3
                          try clear hfz14_0
                          try clear hfz14_1
                          try clear hfz14_2
                          try clear hfz14_3
                          try clear hfz19_0
                          try clear hfz19_1
                          try clear hfz19_2
                          try clear hfz19_3
                          try clear hx350_0
                          try clear hx350_1
                          try clear hx350_2
                          try clear hx350_3
                          try clear hx352_0
                          try clear hx353_0
                          try clear p2
                          try clear p3
                          try clear p350
                          try clear p352
                          try clear p353
                          try clear q3
                          try clear q350
                          try clear q352
                          try clear q353
                          obtain ⟨x5_3, x43_3, rfl, rfl, HA, HK3, BK351, HB⟩ := hrel
                          cases gk with
                          | zero => exact absurd HA.out (by simp [text_sign.l1])
                          | succ k3 =>
                            have H := HA.out
                            clear HA
                            simp only [text_sign.l1] at H
                            by_cases c21 : x43_3 < (((l0.take ((wrap64 (1 + ((rd_T231 t347 x10_1).f2))) : Int).toNat).drop 1).length : Int)
                            · rw [if_pos c21] at H
                              have c21b0 : decide (x43_3 < (((l0.take ((wrap64 (1 + ((rd_T231 t347 x10_1).f2))) : Int).toNat).drop 1).length : Int)) = true := decide_eq_true c21
                              have c21t := c21b0; rw [hl354] at c21t
                              clear c21
                              by_cases c22 : 0 ≤ x43_3
                              · rw [if_pos c22] at H
                                have c22b0 : decide (0 ≤ x43_3) = true := decide_eq_true c22
                                clear c22
                                by_cases c23 : x43_3 < (((l0.take ((wrap64 (1 + ((rd_T231 t347 x10_1).f2))) : Int).toNat).drop 1).length : Int)
                                · rw [if_pos c23] at H
                                  have c23b0 : decide (x43_3 < (((l0.take ((wrap64 (1 + ((rd_T231 t347 x10_1).f2))) : Int).toNat).drop 1).length : Int)) = true := decide_eq_true c23
                                  have c23t := c23b0; rw [hl354] at c23t
                                  clear c23
                                  by_cases c24 : (Go.bits .and .u8 (rd ((l0.take ((wrap64 (1 + ((rd_T231 t347 x10_1).f2))) : Int).toNat).drop 1) x43_3) 192) = 128
                                  · rw [if_pos c24] at H
                                    have c24b0 : ((Go.bits .and .u8 (rd ((l0.take ((wrap64 (1 + ((rd_T231 t347 x10_1).f2))) : Int).toNat).drop 1) x43_3) 192) == 128) = true := beq_iff_eq.mpr c24
                                    have c24b1 : ((Go.bits .and .u8 (rd ((l0.take ((wrap64 (1 + ((rd_T231 t347 x10_1).f2))) : Int).toNat).drop 1) x43_3) 192) != 128) = false := bne_eq_false_iff_eq.mpr c24
                                    have c24t0 := c24b0; have c24t1 := c24b1; simp only [List.drop_one] at c24t0 c24t1
                                    clear c24
                                    have H' := Aside0.mk H
                                    clear H
                                    have p355 : 0 ≤ (x43_3 : Int) := of_decide_eq_true (by first | (with_reducible assumption) | assumption)
                                    have q355 : x43_3 < (((l0.take ((wrap64 (1 + ((rd_T231 t347 x10_1).f2))) : Int).toNat).drop 1).length : Int) := of_decide_eq_true (by first | (with_reducible assumption) | assumption)
                                    obtain ⟨ad355, e355, hx355_0⟩ := Kd.at_int HR354.out x43_3 p355 q355
                                    cases e355
                                    replace hx355_0 := (HB.out.cell (World.block_lt_of_cell? w _ hx355_0)).trans hx355_0
                                    replace p355 := eq_true p355
                                    replace q355 := eq_true q355
                                    have q355t := eq_true (of_decide_eq_true c23t)
                                    go_wp2
                                    repeat (go_quiet (fail); try go_wp2)
                                    go_roundg k3
                                    case measure => have := HK1.out; have := HJ7.out; have := HK3.out; omega
                                    case rel => exact ⟨(Go.bits .or .u32 ((x5_3 * 64) % 4294967296) ((Go.bits .and .u8 (rd ((l0.take ((wrap64 (1 + ((rd_T231 t347 x10_1).f2))) : Int).toNat).drop 1) x43_3) 63) % 4294967296)), (wrap64 (x43_3 + 1)), (by first | rfl | (simp; done) | (simp [*]; done)), (by first | rfl | (simp; done) | (simp [*]; done)), H', ⟨by have := HK1.out; have := HJ7.out; have := HK3.out; omega⟩, ⟨by (with_reducible repeat (first | refine blk_drewN ?_ _ | refine blk_drew ?_ | refine blk_alloc ?_ _)); exact BK351.out⟩, ⟨by repeat (first | (with_reducible first | exact HB.out | apply below_alloc | apply pw_below_drewN | apply below_drew1 | refine below_set ?_ GE351.out) | exact HB.out)⟩⟩
                                  · rw [if_neg c24] at H
                                    have c24b0 : ((Go.bits .and .u8 (rd ((l0.take ((wrap64 (1 + ((rd_T231 t347 x10_1).f2))) : Int).toNat).drop 1) x43_3) 192) == 128) = false := beq_eq_false_iff_ne.mpr c24
                                    have c24b1 : ((Go.bits .and .u8 (rd ((l0.take ((wrap64 (1 + ((rd_T231 t347 x10_1).f2))) : Int).toNat).drop 1) x43_3) 192) != 128) = true := bne_iff_ne.mpr c24
                                    have c24t0 := c24b0; have c24t1 := c24b1; simp only [List.drop_one] at c24t0 c24t1
                                    obtain rfl := Option.some.inj H
                                    have p355 : 0 ≤ (x43_3 : Int) := of_decide_eq_true (by first | (with_reducible assumption) | assumption)
                                    have q355 : x43_3 < (((l0.take ((wrap64 (1 + ((rd_T231 t347 x10_1).f2))) : Int).toNat).drop 1).length : Int) := of_decide_eq_true (by first | (with_reducible assumption) | assumption)
                                    obtain ⟨ad355, e355, hx355_0⟩ := Kd.at_int HR354.out x43_3 p355 q355
                                    cases e355
                                    replace hx355_0 := (HB.out.cell (World.block_lt_of_cell? w _ hx355_0)).trans hx355_0
                                    replace p355 := eq_true p355
                                    replace q355 := eq_true q355
                                    have q355t := eq_true (of_decide_eq_true c23t)
                                    go_wp2
                                    repeat (go_quiet (fail); try go_wp2)
                                    go_ret
                                    exact ⟨by first | rfl | (simp [errW_none, errW_some] <;> rfl) | (simp [*, errW_none, errW_some] <;> rfl), by repeat (first | (with_reducible first | exact HB.out | apply below_alloc | apply pw_below_drewN | apply below_drew1 | refine below_set ?_ GE351.out) | exact HB.out)⟩
                                · rw [if_neg c23] at H
                                  exact absurd H (by simp)
                              · rw [if_neg c22] at H
                                exact absurd H (by simp)
                            · rw [if_neg c21] at H
                              have c21b0 : decide (x43_3 < (((l0.take ((wrap64 (1 + ((rd_T231 t347 x10_1).f2))) : Int).toNat).drop 1).length : Int)) = false := decide_eq_false c21
                              have c21t := c21b0; rw [hl354] at c21t
                              clear c21
                              by_cases c25 : x5_3 < ((rd_T231 t347 x10_1).f3)
                              · rw [if_pos c25] at H
                                have c25b0 : decide (x5_3 < ((rd_T231 t347 x10_1).f3)) = true := decide_eq_true c25
                                clear c25
                                obtain rfl := Option.some.inj H
                                have hcz26_0 : wr.cell? ⟨gb351, 0, none⟩ = some (.int .u8 ((rd_T231 t347 x10_1).f0)) := (blk_cell BK351.out 0).trans rfl
                                have hcz26_1 : wr.cell? ⟨gb351, 1, none⟩ = some (.int .u8 ((rd_T231 t347 x10_1).f1)) := (blk_cell BK351.out 1).trans rfl
                                have hcz26_2 : wr.cell? ⟨gb351, 2, none⟩ = some (.int .i64 ((rd_T231 t347 x10_1).f2)) := (blk_cell BK351.out 2).trans rfl
                                have hcz26_3 : wr.cell? ⟨gb351, 3, none⟩ = some (.int .u32 ((rd_T231 t347 x10_1).f3)) := (blk_cell BK351.out 3).trans rfl
                                have hfz26_0 := blk_frozen BK351.out 0
                                have hfz26_1 := blk_frozen BK351.out 1
                                have hfz26_2 := blk_frozen BK351.out 2
                                have hfz26_3 := blk_frozen BK351.out 3
                                go_wp2
                                repeat (go_quiet (fail); try go_wp2)
                                go_ret
                                exact ⟨by first | rfl | (simp [errW_none, errW_some] <;> rfl) | (simp [*, errW_none, errW_some] <;> rfl), by repeat (first | (with_reducible first | exact HB.out | apply below_alloc | apply pw_below_drewN | apply below_drew1 | refine below_set ?_ GE351.out) | exact HB.out)⟩
                              · rw [if_neg c25] at H
                                have c25b0 : decide (x5_3 < ((rd_T231 t347 x10_1).f3)) = false := decide_eq_false c25
                                clear c25
                                by_cases c27 : x5_3 ≥ 55296
                                · rw [if_pos c27] at H
                                  have c27b0 : decide (55296 ≤ x5_3) = true := decide_eq_true c27
                                  clear c27
                                  by_cases c28 : x5_3 ≤ 57343
                                  · rw [if_pos c28] at H
                                    have c28b0 : decide (x5_3 ≤ 57343) = true := decide_eq_true c28
                                    clear c28
                                    obtain rfl := Option.some.inj H
                                    have hcz29_0 : wr.cell? ⟨gb351, 0, none⟩ = some (.int .u8 ((rd_T231 t347 x10_1).f0)) := (blk_cell BK351.out 0).trans rfl
                                    have hcz29_1 : wr.cell? ⟨gb351, 1, none⟩ = some (.int .u8 ((rd_T231 t347 x10_1).f1)) := (blk_cell BK351.out 1).trans rfl
                                    have hcz29_2 : wr.cell? ⟨gb351, 2, none⟩ = some (.int .i64 ((rd_T231 t347 x10_1).f2)) := (blk_cell BK351.out 2).trans rfl
                                    have hcz29_3 : wr.cell? ⟨gb351, 3, none⟩ = some (.int .u32 ((rd_T231 t347 x10_1).f3)) := (blk_cell BK351.out 3).trans rfl
                                    have hfz29_0 := blk_frozen BK351.out 0
                                    have hfz29_1 := blk_frozen BK351.out 1
                                    have hfz29_2 := blk_frozen BK351.out 2
                                    have hfz29_3 := blk_frozen BK351.out 3
                                    go_wp2
                                    repeat (go_quiet (fail); try go_wp2)
                                    go_ret
                                    exact ⟨by first | rfl | (simp [errW_none, errW_some] <;> rfl) | (simp [*, errW_none, errW_some] <;> rfl), by repeat (first | (with_reducible first | exact HB.out | apply below_alloc | apply pw_below_drewN | apply below_drew1 | refine below_set ?_ GE351.out) | exact HB.out)⟩
                                  · rw [if_neg c28] at H
                                    have c28b0 : decide (x5_3 ≤ 57343) = false := decide_eq_false c28
                                    clear c28
                                    by_cases c30 : x5_3 > 1114111
                                    · rw [if_pos c30] at H
                                      have c30b0 : decide (1114111 < x5_3) = true := decide_eq_true c30
                                      clear c30
                                      obtain rfl := Option.some.inj H
                                      have hcz31_0 : wr.cell? ⟨gb351, 0, none⟩ = some (.int .u8 ((rd_T231 t347 x10_1).f0)) := (blk_cell BK351.out 0).trans rfl
                                      have hcz31_1 : wr.cell? ⟨gb351, 1, none⟩ = some (.int .u8 ((rd_T231 t347 x10_1).f1)) := (blk_cell BK351.out 1).trans rfl
                                      have hcz31_2 : wr.cell? ⟨gb351, 2, none⟩ = some (.int .i64 ((rd_T231 t347 x10_1).f2)) := (blk_cell BK351.out 2).trans rfl
                                      have hcz31_3 : wr.cell? ⟨gb351, 3, none⟩ = some (.int .u32 ((rd_T231 t347 x10_1).f3)) := (blk_cell BK351.out 3).trans rfl
                                      have hfz31_0 := blk_frozen BK351.out 0
                                      have hfz31_1 := blk_frozen BK351.out 1
                                      have hfz31_2 := blk_frozen BK351.out 2
                                      have hfz31_3 := blk_frozen BK351.out 3
                                      go_wp2
                                      repeat (go_quiet (fail); try go_wp2)
                                      go_ret
                                      exact ⟨by first | rfl | (simp [errW_none, errW_some] <;> rfl) | (simp [*, errW_none, errW_some] <;> rfl), by repeat (first | (with_reducible first | exact HB.out | apply below_alloc | apply pw_below_drewN | apply below_drew1 | refine below_set ?_ GE351.out) | exact HB.out)⟩
                                    · rw [if_neg c30] at H
                                      have c30b0 : decide (1114111 < x5_3) = false := decide_eq_false c30
                                      clear c30
                                      obtain rfl := Option.some.inj H
                                      have hcz32_0 : wr.cell? ⟨gb351, 0, none⟩ = some (.int .u8 ((rd_T231 t347 x10_1).f0)) := (blk_cell BK351.out 0).trans rfl
                                      have hcz32_1 : wr.cell? ⟨gb351, 1, none⟩ = some (.int .u8 ((rd_T231 t347 x10_1).f1)) := (blk_cell BK351.out 1).trans rfl
                                      have hcz32_2 : wr.cell? ⟨gb351, 2, none⟩ = some (.int .i64 ((rd_T231 t347 x10_1).f2)) := (blk_cell BK351.out 2).trans rfl
                                      have hcz32_3 : wr.cell? ⟨gb351, 3, none⟩ = some (.int .u32 ((rd_T231 t347 x10_1).f3)) := (blk_cell BK351.out 3).trans rfl
                                      have hfz32_0 := blk_frozen BK351.out 0
                                      have hfz32_1 := blk_frozen BK351.out 1
                                      have hfz32_2 := blk_frozen BK351.out 2
                                      have hfz32_3 := blk_frozen BK351.out 3
                                      go_wp2
                                      repeat (go_quiet (fail); try go_wp2)
                                      go_ret
                                      exact ⟨by first | rfl | (simp [errW_none, errW_some] <;> rfl) | (simp [*, errW_none, errW_some] <;> rfl), by repeat (first | (with_reducible first | exact HB.out | apply below_alloc | apply pw_below_drewN | apply below_drew1 | refine below_set ?_ GE351.out) | exact HB.out)⟩
                                · rw [if_neg c27] at H
                                  have c27b0 : decide (55296 ≤ x5_3) = false := decide_eq_false c27
                                  clear c27
                                  by_cases c33 : x5_3 > 1114111
                                  · rw [if_pos c33] at H
                                    have c33b0 : decide (1114111 < x5_3) = true := decide_eq_true c33
                                    clear c33
                                    obtain rfl := Option.some.inj H
                                    have hcz34_0 : wr.cell? ⟨gb351, 0, none⟩ = some (.int .u8 ((rd_T231 t347 x10_1).f0)) := (blk_cell BK351.out 0).trans rfl
                                    have hcz34_1 : wr.cell? ⟨gb351, 1, none⟩ = some (.int .u8 ((rd_T231 t347 x10_1).f1)) := (blk_cell BK351.out 1).trans rfl
                                    have hcz34_2 : wr.cell? ⟨gb351, 2, none⟩ = some (.int .i64 ((rd_T231 t347 x10_1).f2)) := (blk_cell BK351.out 2).trans rfl
                                    have hcz34_3 : wr.cell? ⟨gb351, 3, none⟩ = some (.int .u32 ((rd_T231 t347 x10_1).f3)) := (blk_cell BK351.out 3).trans rfl
                                    have hfz34_0 := blk_frozen BK351.out 0
                                    have hfz34_1 := blk_frozen BK351.out 1
                                    have hfz34_2 := blk_frozen BK351.out 2
                                    have hfz34_3 := blk_frozen BK351.out 3
                                    go_wp2
                                    repeat (go_quiet (fail); try go_wp2)
                                    go_ret
                                    exact ⟨by first | rfl | (simp [errW_none, errW_some] <;> rfl) | (simp [*, errW_none, errW_some] <;> rfl), by repeat (first | (with_reducible first | exact HB.out | apply below_alloc | apply pw_below_drewN | apply below_drew1 | refine below_set ?_ GE351.out) | exact HB.out)⟩
                                  · rw [if_neg c33] at H
                                    have c33b0 : decide (1114111 < x5_3) = false := decide_eq_false c33
                                    clear c33
                                    obtain rfl := Option.some.inj H
                                    have hcz35_0 : wr.cell? ⟨gb351, 0, none⟩ = some (.int .u8 ((rd_T231 t347 x10_1).f0)) := (blk_cell BK351.out 0).trans rfl
                                    have hcz35_1 : wr.cell? ⟨gb351, 1, none⟩ = some (.int .u8 ((rd_T231 t347 x10_1).f1)) := (blk_cell BK351.out 1).trans rfl
                                    have hcz35_2 : wr.cell? ⟨gb351, 2, none⟩ = some (.int .i64 ((rd_T231 t347 x10_1).f2)) := (blk_cell BK351.out 2).trans rfl
                                    have hcz35_3 : wr.cell? ⟨gb351, 3, none⟩ = some (.int .u32 ((rd_T231 t347 x10_1).f3)) := (blk_cell BK351.out 3).trans rfl
                                    have hfz35_0 := blk_frozen BK351.out 0
                                    have hfz35_1 := blk_frozen BK351.out 1
                                    have hfz35_2 := blk_frozen BK351.out 2
                                    have hfz35_3 := blk_frozen BK351.out 3
                                    go_wp2
                                    repeat (go_quiet (fail); try go_wp2)
                                    go_ret
                                    exact ⟨by first | rfl | (simp [errW_none, errW_some] <;> rfl) | (simp [*, errW_none, errW_some] <;> rfl), by repeat (first | (with_reducible first | exact HB.out | apply below_alloc | apply pw_below_drewN | apply below_drew1 | refine below_set ?_ GE351.out) | exact HB.out)⟩
                      · rw [if_neg c18] at H
                        exact absurd H (by simp)
                    · rw [if_neg c17] at H
                      exact absurd H (by simp)
                  · rw [if_neg c16] at H
                    exact absurd H (by simp)
          · rw [if_neg c7] at H
            exact absurd H (by simp)
        · rw [if_neg c6] at H
          exact absurd H (by simp)
      · rw [if_neg c5] at H
        have c5b0 : decide (x10_1 < (t347.length : Int)) = false := decide_eq_false c5
        clear c5
        obtain rfl := Option.some.inj H
        go_wp2
        repeat (go_quiet (fail); try go_wp2)
        go_ret
        exact ⟨by first | rfl | (simp [errW_none, errW_some] <;> rfl) | (simp [*, errW_none, errW_some] <;> rfl), by repeat (first | (with_reducible first | exact HB.out | apply below_alloc | apply pw_below_drewN | apply below_drew1) | exact HB.out)⟩
def text_Count.l0 : Nat → List Int → Int → Option (Int)
  | 0, _, _ => none
  | k + 1, x0, x3 => if (x0.length : Int) > 0 then ((text_sign.f k x0).bind fun t356 => (if t356 = 0 then (some (-1)) else (if 0 ≤ t356 then (if t356 ≤ (x0.length : Int) then (text_Count.l0 k (x0.drop (t356 : Int).toNat) (wrap64 (x3 + 1))) else (none)) else (none)))) else (some x3)
def text_Count.f (k : Nat) (l0 : List Int) : Option (Int) := text_Count.l0 k l0 0
theorem text_Count.mono_l : ∀ k, (∀ y0 y1, LeO (text_Count.l0 k y0 y1) (text_Count.l0 (k + 1) y0 y1))
  | 0 => fun _ _ r h => by simp [text_Count.l0] at h
  | k + 1 => by
    have ih0 := text_Count.mono_l k
    · intro y0 y1
      unfold text_Count.l0
      repeat' first
      | (with_reducible exact ih0 _ _)
      | (with_reducible exact text_sign.mono _ _)
      | (with_reducible exact LeO.refl _)
      | (with_reducible exact LeO.none _)
      | (with_reducible refine LeO.ite ?_ ?_)
      | (with_reducible refine LeO.bind ?_ (fun _ => ?_))
      | exact ih0 _ _
      | exact text_sign.mono _ _
      | exact LeO.none _
      | refine LeO.ite ?_ ?_
      | refine LeO.bind ?_ (fun _ => ?_)
theorem text_Count.mono : ∀ a0 k, LeO (text_Count.f k a0) (text_Count.f (k + 1) a0) := by
  intro a0 k
  have ih0 := text_Count.mono_l k
  unfold text_Count.f
  repeat' first
      | (with_reducible exact ih0 _ _)
      | (with_reducible exact text_sign.mono _ _)
      | (with_reducible exact LeO.refl _)
      | (with_reducible exact LeO.none _)
      | (with_reducible refine LeO.ite ?_ ?_)
      | (with_reducible refine LeO.bind ?_ (fun _ => ?_))
      | exact ih0 _ _
      | exact text_sign.mono _ _
      | exact LeO.none _
      | refine LeO.ite ?_ ?_
      | refine LeO.bind ?_ (fun _ => ?_)
set_option maxHeartbeats 8000000 in
set_option maxRecDepth 100000 in
theorem text_Count.calls (k : Nat) (P0_ : Nat → Prop) (A0 : Option Addr) (c0 : Nat) (l0 : List Int) (r : Int) (w : World) (hs0 : Kd.V (Kd.int .u8) 5 w w.heap.size (fun k_ => P0_ k_) (.slice A0 l0.length c0) l0) (h : text_Count.f k l0 = some r) :
    Calls Tryz.prog 173 #[.slice A0 l0.length c0] w fun e w' => e = .returned (.int .i64 r) ∧ Below w.heap.size w w' := by
  have HO0 := Aside0.mk (show Kd.V (Kd.int .u8) 5 w w.heap.size (fun k_ => (P0_ k_ ∨ w.heap.size ≤ k_)) (.slice A0 l0.length c0) l0 from Kd.V_mono hs0 (fun k_ hk => .inl hk))
  have HB := Aside0.mk (Below.refl w.heap.size w)
  have H : (text_Count.l0 k l0 0) = some r := h
  clear h
  have H' := Aside0.mk H
  clear H
  go_enter Tryz.func173, Tryz.ntmps173
  go_wp2
  go_loopg [0, 3] k (fun kq v0 v3 w' => ∃ (x0_1 : List Int) (x3_1 : Int), v3 = .int .i64 x3_1 ∧ Aside0 (text_Count.l0 kq x0_1 x3_1 = some r) ∧ Aside0 (kq ≤ k) ∧ Aside0 (Kd.V (Kd.int .u8) 5 w' w.heap.size (fun k_ => (P0_ k_ ∨ w.heap.size ≤ k_)) v0 x0_1) ∧ Aside0 (Below w.heap.size w w'))
  case atStart => exact ⟨(l0), (0), (by first | rfl | (simp; done) | (simp [*]; done)), H', ⟨Nat.le_refl _⟩, ⟨by (with_reducible repeat (first | apply Kd.V_alloc | apply Kd.V_drewN | apply Kd.V_drew)); exact HO0.out⟩, ⟨by repeat (first | (with_reducible first | exact HB.out | apply below_alloc | apply pw_below_drewN | apply below_drew1) | exact HB.out)⟩⟩
  case round =>
    clear H'
    try clear c1
    obtain ⟨x0_1, x3_1, rfl, HA, HK1, HO_0, HB⟩ := hrel
    cases gk with
    | zero => exact absurd HA.out (by simp [text_Count.l0])
    | succ k1 =>
      have H := HA.out
      clear HA
      simp only [text_Count.l0] at H
      by_cases c2 : (x0_1.length : Int) > 0
      · rw [if_pos c2] at H
        have c2b0 : decide (0 < (x0_1.length : Int)) = true := decide_eq_true c2
        have c2b1 : decide (0 < x0_1.length) = true := decide_eq_true (by omega)
        clear c2
        replace H := Option.bind_eq_some_iff.mp H
        obtain ⟨t356, A30, H⟩ := H
        replace H : (if t356 = 0 then (some (-1)) else (if 0 ≤ t356 then (if t356 ≤ (x0_1.length : Int) then (text_Count.l0 k1 (x0_1.drop (t356 : Int).toNat) (wrap64 (x3_1 + 1))) else (none)) else (none))) = some r := H
        have A3 := Aside0.mk A30
        clear A30
        by_cases c4 : t356 = 0
        · rw [if_pos c4] at H
          have c4b0 : (t356 == 0) = true := beq_iff_eq.mpr c4
          have c4b1 : (t356 != 0) = false := bne_eq_false_iff_eq.mpr c4
          clear c4
          obtain rfl := Option.some.inj H
          obtain ⟨Ao5, co5, eo5⟩ := Kd.V_slice HO_0.out
          subst eo5
          go_wp2_with (first | ((with_reducible refine gate_callee (f := 212) rfl ?_); refine goesL_ (some 9) rfl rfl Tryz.func212 (by kernel_rfl) rfl #[.slice Ao5 x0_1.length co5] rfl (by (try simp only [List.map_toArray, List.map_cons, List.map_nil]); first | done | rfl | (simp only [List.length_drop, List.length_take]; rfl)) ?_; (with_reducible refine (text_sign.calls k1 _ _ x0_1 t356 _ ?side1 ?side2 A3.out).mono ?_); (case side1 => repeat (first | exact (Kd.V_reads' HO_0.out).2.2 | (with_reducible refine Kd.C_alloc ?_ _) | (with_reducible refine Kd.C_drewN ?_ _) | (with_reducible refine Kd.C_drew ?_))); (case side2 => exact (Kd.V_reads' HO_0.out).2.1); rintro e w6 ⟨rfl, hb⟩; refine ⟨_, rfl, ?_⟩; have n0_ := Aside0.mk (Kd.V_below (by (with_reducible repeat (first | apply Kd.V_alloc | apply Kd.V_drewN | apply Kd.V_drew)); exact HO_0.out) hb); have n1_ := Aside0.mk (below_step (by repeat (first | (with_reducible first | exact HB.out | apply below_alloc | apply pw_below_drewN | apply below_drew1) | exact HB.out)) hb); clear HO_0; clear HB; have HO_0 := n0_; have HB := n1_; clear n0_ n1_; (try clear hb); (try clear hb2); (try clear hk); (try clear hi)))
          go_ret
          exact ⟨by first | rfl | (simp [errW_none, errW_some] <;> rfl) | (simp [*, errW_none, errW_some] <;> rfl), by repeat (first | (with_reducible first | exact HB.out | apply below_alloc | apply pw_below_drewN | apply below_drew1) | exact HB.out)⟩
        · rw [if_neg c4] at H
          have c4b0 : (t356 == 0) = false := beq_eq_false_iff_ne.mpr c4
          have c4b1 : (t356 != 0) = true := bne_iff_ne.mpr c4
          by_cases c7 : 0 ≤ t356
          · rw [if_pos c7] at H
            have c7b0 := eq_true c7
            have c7b1 : decide (0 ≤ t356) = true := decide_eq_true c7
            clear c7
            by_cases c8 : t356 ≤ (x0_1.length : Int)
            · rw [if_pos c8] at H
              have c8b0 := eq_true c8
              have c8b1 : decide (t356 ≤ (x0_1.length : Int)) = true := decide_eq_true c8
              clear c8
              obtain ⟨y357, hy357⟩ : ∃ y_ : List Int, y_ = (x0_1.drop (t356 : Int).toNat) := ⟨_, rfl⟩
              replace H : (text_Count.l0 k1 y357 (wrap64 (x3_1 + 1))) = some r := by first | (rw [hy357]; with_reducible exact H) | (have H2_ := (Option.bind_some _ _).symm.trans H; rw [hy357]; with_reducible exact H2_) | (have H2_ := (Option.bind_some _ _).symm.trans H; with_reducible exact H2_) | with_reducible exact H | (rw [hy357]; exact H) | exact H
              have Ny357 := Aside0.mk hy357
              clear hy357
              have H' := Aside0.mk H
              clear H
              obtain ⟨Ao9, co9, eo9⟩ := Kd.V_slice HO_0.out
              subst eo9
              go_wp2_with (first | ((with_reducible refine gate_callee (f := 212) rfl ?_); refine goesL_ (some 9) rfl rfl Tryz.func212 (by kernel_rfl) rfl #[.slice Ao9 x0_1.length co9] rfl (by (try simp only [List.map_toArray, List.map_cons, List.map_nil]); first | done | rfl | (simp only [List.length_drop, List.length_take]; rfl)) ?_; (with_reducible refine (text_sign.calls k1 _ _ x0_1 t356 _ ?side1 ?side2 A3.out).mono ?_); (case side1 => repeat (first | exact (Kd.V_reads' HO_0.out).2.2 | (with_reducible refine Kd.C_alloc ?_ _) | (with_reducible refine Kd.C_drewN ?_ _) | (with_reducible refine Kd.C_drew ?_))); (case side2 => exact (Kd.V_reads' HO_0.out).2.1); rintro e w10 ⟨rfl, hb⟩; refine ⟨_, rfl, ?_⟩; have n0_ := Aside0.mk (Kd.V_below (by (with_reducible repeat (first | apply Kd.V_alloc | apply Kd.V_drewN | apply Kd.V_drew)); exact HO_0.out) hb); have n1_ := Aside0.mk (below_step (by repeat (first | (with_reducible first | exact HB.out | apply below_alloc | apply pw_below_drewN | apply below_drew1) | exact HB.out)) hb); clear HO_0; clear HB; have HO_0 := n0_; have HB := n1_; clear n0_ n1_; (try clear hb); (try clear hb2); (try clear hk); (try clear hi); have q11 : (t356 : Int) ≤ ((x0_1.length : Int) : Int) := of_decide_eq_true (by first | (with_reducible assumption) | assumption); obtain ⟨i011, hi011, _, hsz11, _⟩ := info_parts info5; have hroom11 : x0_1.length ≤ co9 := (Kd.V_reads' HO_0.out).2.1; have hC11 : Kd.F (Kd.int .u8) _ _ Ao9 x0_1.length x0_1 := (Kd.V_at (base := w.heap.size) HO_0.out).2.2; have q011 : (0 : Int) ≤ (t356 : Int) := of_decide_eq_true (by first | (with_reducible assumption) | assumption); have hcut11 := cut_from (P := Tryz.prog) 51 5 .i64 Tryz.underlying51 hi011 1 hsz11 Ao9 x0_1.length co9 t356 q011 q11; have hr11 := Kd.F_cut (m := (t356 : Int).toNat) (c := co9) hC11 (by omega) hroom11; obtain ⟨A11, hA11⟩ : ∃ A1, A1 = (if co9 = (t356 : Int).toNat then Ao9 else (Ao9 : Option Addr).map (·.add ((t356 : Int).toNat * 1))) := ⟨_, rfl⟩; obtain ⟨c11, hc11⟩ : ∃ c1, c1 = co9 - (t356 : Int).toNat := ⟨_, rfl⟩; have hy11 : y357.length = x0_1.length - (t356 : Int).toNat := (by rw [Ny357.out, List.length_drop] <;> omega); rw [show (x0_1).drop (t356 : Int).toNat = y357 from Ny357.out.symm] at hr11; replace hr11 : Kd.F (Kd.int .u8) _ _ A11 y357.length y357 := (by rw [hA11]; exact hr11); rw [← hy11, ← hA11, ← hc11] at hcut11; have HO361 := Aside0.mk (show Kd.V (Kd.int .u8) 5 _ w.heap.size _ (.slice A11 y357.length c11) y357 from Kd.V_mk (by rw [hy11, hc11]; exact Nat.sub_le_sub_right hroom11 _) hr11); have HC361 := Aside0.mk (show y357.length ≤ c11 from by rw [hy11, hc11]; exact Nat.sub_le_sub_right hroom11 _); clear hr11 hC11 hroom11 hi011 hsz11 hc11; have KY11 := Aside0.mk hy11; have KA11 := Aside0.mk hA11; clear hy11 hA11; replace q11 := eq_true q11))
              go_roundg k1
              case measure => have := HK1.out; omega
              case rel => exact ⟨(y357), (wrap64 (x3_1 + 1)), (by first | rfl | (simp; done) | (simp [*]; done)), H', ⟨by have := HK1.out; omega⟩, ⟨by (with_reducible repeat (first | apply Kd.V_alloc | apply Kd.V_drewN | apply Kd.V_drew)); exact HO361.out⟩, ⟨by repeat (first | (with_reducible first | exact HB.out | apply below_alloc | apply pw_below_drewN | apply below_drew1) | exact HB.out)⟩⟩
            · rw [if_neg c8] at H
              exact absurd H (by simp)
          · rw [if_neg c7] at H
            exact absurd H (by simp)
      · rw [if_neg c2] at H
        have c2b0 : decide (0 < (x0_1.length : Int)) = false := decide_eq_false c2
        have c2b1 : decide (0 < x0_1.length) = false := decide_eq_false (by omega)
        clear c2
        obtain rfl := Option.some.inj H
        obtain ⟨Ao12, co12, eo12⟩ := Kd.V_slice HO_0.out
        subst eo12
        go_wp2
        go_ret
        exact ⟨by first | rfl | (simp [errW_none, errW_some] <;> rfl) | (simp [*, errW_none, errW_some] <;> rfl), by repeat (first | (with_reducible first | exact HB.out | apply below_alloc | apply pw_below_drewN | apply below_drew1) | exact HB.out)⟩
def text_Right.f (k : Nat) (l0 : List Int) : Option (Bool) := (text_Count.f k l0).bind fun t362 => (some (decide (t362 ≥ 0)))
theorem text_Right.mono : ∀ a0 k, LeO (text_Right.f k a0) (text_Right.f (k + 1) a0) := by
  intro a0 k
  unfold text_Right.f
  repeat' first
      | (with_reducible exact text_Count.mono _ _)
      | (with_reducible exact LeO.refl _)
      | (with_reducible exact LeO.none _)
      | (with_reducible refine LeO.ite ?_ ?_)
      | (with_reducible refine LeO.bind ?_ (fun _ => ?_))
      | exact text_Count.mono _ _
      | exact LeO.none _
      | refine LeO.ite ?_ ?_
      | refine LeO.bind ?_ (fun _ => ?_)
set_option maxHeartbeats 8000000 in
set_option maxRecDepth 100000 in
theorem text_Right.calls (k : Nat) (A0 : Option Addr) (c0 : Nat) (l0 : List Int) (r : Bool) (w : World) (hr0 : Kd.C (Kd.int .u8) w A0 l0.length l0) (hc0 : l0.length ≤ c0) (h : text_Right.f k l0 = some r) :
    Calls Tryz.prog 121 #[.slice A0 l0.length c0] w fun e w' => e = .returned (.bool r) ∧ Below w.heap.size w w' := by
  have HR0 := Aside0.mk hr0
  have HC0 := Aside0.mk hc0
  clear hr0 hc0
  have HB := Aside0.mk (Below.refl w.heap.size w)
  have H : ((text_Count.f k l0).bind fun t362 => (some (decide (t362 ≥ 0)))) = some r := h
  clear h
  replace H := Option.bind_eq_some_iff.mp H
  obtain ⟨t362, A20, H⟩ := H
  replace H : (some (decide (t362 ≥ 0))) = some r := H
  have A2 := Aside0.mk A20
  clear A20
  obtain rfl := Option.some.inj H
  go_enter Tryz.func121, Tryz.ntmps121
  go_wp2_with (first | ((with_reducible refine gate_callee (f := 173) rfl ?_); refine goesL_ (some 4) rfl rfl Tryz.func173 (by kernel_rfl) rfl #[.slice A0 l0.length c0] rfl (by (try simp only [List.map_toArray, List.map_cons, List.map_nil]); first | done | rfl | (simp only [List.length_drop, List.length_take]; rfl)) ?_; (with_reducible refine (text_Count.calls k (fun k_ => k_ < w.heap.size) _ _ l0 t362 _ ?side1 A2.out).mono ?_); (case side1 => exact Kd.V_mk HC0.out (Kd.F_below (Kd.C_F (Kd.heap_int .u8) HR0.out) (by repeat (first | (with_reducible first | exact HB.out | apply below_alloc | apply pw_below_drewN | apply below_drew1) | exact HB.out)))); rintro e w3 ⟨rfl, hb⟩; refine ⟨_, rfl, ?_⟩; have n0_ := Aside0.mk (below_step (by repeat (first | (with_reducible first | exact HB.out | apply below_alloc | apply pw_below_drewN | apply below_drew1) | exact HB.out)) hb); clear HB; have HB := n0_; clear n0_; (try clear hb); (try clear hb2); (try clear hk); (try clear hi)))
  go_ret
  exact ⟨by first | rfl | (simp [errW_none, errW_some] <;> rfl) | (simp [*, errW_none, errW_some] <;> rfl), by repeat (first | (with_reducible first | exact HB.out | apply below_alloc | apply pw_below_drewN | apply below_drew1) | exact HB.out)⟩
def module_index.f (a0 : Int) : Option (Bool) := if a0 ≥ 0 then (some (decide (a0 ≤ 2147483647))) else (some false)
set_option maxHeartbeats 8000000 in
set_option maxRecDepth 100000 in
theorem module_index.calls (a0 : Int) (r : Bool) (w : World) (h : module_index.f a0 = some r) :
    Calls Tryz.prog 67 #[.int .i64 a0] w fun e w' => e = .returned (.bool r) ∧ Drawn0 w w' := by
  have H : (if a0 ≥ 0 then (some (decide (a0 ≤ 2147483647))) else (some false)) = some r := h
  clear h
  by_cases c2 : a0 ≥ 0
  · rw [if_pos c2] at H
    have c2b0 : decide (0 ≤ a0) = true := decide_eq_true c2
    clear c2
    obtain rfl := Option.some.inj H
    go_enter Tryz.func67, Tryz.ntmps67
    go_wp2
    go_ret
    exact ⟨by first | rfl | (simp; done) | (simp [*]; done), by repeat (first | exact Drawn0.refl _ | apply Drawn0.step)⟩
  · rw [if_neg c2] at H
    have c2b0 : decide (0 ≤ a0) = false := decide_eq_false c2
    clear c2
    obtain rfl := Option.some.inj H
    go_enter Tryz.func67, Tryz.ntmps67
    go_wp2
    go_ret
    exact ⟨by first | rfl | (simp; done) | (simp [*]; done), by repeat (first | exact Drawn0.refl _ | apply Drawn0.step)⟩
def module_laid.j0 : Nat → Bool → Bool → Int → Int → List Int → Option (Bool)
  | 0, _, _, _, _, _ => none
  | k + 1, x3, x366000, x366001, x366002, x366003 => if x366000 = true then ((module_within.f x366001 4).bind fun t366 => (if t366 = true then ((module_index.f x366002).bind fun t367 => (if t367 = true then (some (decide ((x366003.length : Int) ≤ 1048576))) else (some false))) else (some false))) else (if x3 = true then (some (decide ((x366003.length : Int) ≤ 1048576))) else (some false))
def module_laid.f (k : Nat) (a0_0 : Bool) (a0_1 : Int) (a0_2 : Int) (l0_3 : List Int) : Option (Bool) := if a0_1 = 0 then (module_laid.j0 k (a0_2 == 0) a0_0 a0_1 a0_2 l0_3) else (module_laid.j0 k false a0_0 a0_1 a0_2 l0_3)
theorem module_laid.mono_l : ∀ k, (∀ y0 y1 y2 y3 y4, LeO (module_laid.j0 k y0 y1 y2 y3 y4) (module_laid.j0 (k + 1) y0 y1 y2 y3 y4))
  | 0 => fun _ _ _ _ _ r h => by simp [module_laid.j0] at h
  | k + 1 => by
    have ih0 := module_laid.mono_l k
    · intro y0 y1 y2 y3 y4
      unfold module_laid.j0
      repeat' first
      | (with_reducible exact ih0 _ _ _ _ _)
      | (with_reducible exact LeO.refl _)
      | (with_reducible exact LeO.none _)
      | (with_reducible refine LeO.ite ?_ ?_)
      | (with_reducible refine LeO.bind ?_ (fun _ => ?_))
      | exact ih0 _ _ _ _ _
      | exact LeO.none _
      | refine LeO.ite ?_ ?_
      | refine LeO.bind ?_ (fun _ => ?_)
theorem module_laid.mono : ∀ a0 a1 a2 a3 k, LeO (module_laid.f k a0 a1 a2 a3) (module_laid.f (k + 1) a0 a1 a2 a3) := by
  intro a0 a1 a2 a3 k
  have ih0 := module_laid.mono_l k
  unfold module_laid.f
  repeat' first
      | (with_reducible exact ih0 _ _ _ _ _)
      | (with_reducible exact LeO.refl _)
      | (with_reducible exact LeO.none _)
      | (with_reducible refine LeO.ite ?_ ?_)
      | (with_reducible refine LeO.bind ?_ (fun _ => ?_))
      | exact ih0 _ _ _ _ _
      | exact LeO.none _
      | refine LeO.ite ?_ ?_
      | refine LeO.bind ?_ (fun _ => ?_)
set_option maxHeartbeats 8000000 in
set_option maxRecDepth 100000 in
theorem module_laid.calls (k : Nat) (a0_0 : Bool) (a0_1 : Int) (a0_2 : Int) (A0_3 : Option Addr) (c0_3 : Nat) (l0_3 : List Int) (r : Bool) (w : World) (hr0_3 : Kd.C (Kd.int .u8) w A0_3 l0_3.length l0_3) (hc0_3 : l0_3.length ≤ c0_3) (h : module_laid.f k a0_0 a0_1 a0_2 l0_3 = some r) :
    Calls Tryz.prog 79 #[.agg #[.bool a0_0, .int .i64 a0_1, .int .i64 a0_2, .slice A0_3 l0_3.length c0_3]] w fun e w' => e = .returned (.bool r) ∧ Below w.heap.size w w' := by
  have hu76 := Tryz.underlying76
  have HR0_3 := Aside0.mk hr0_3
  have HC0_3 := Aside0.mk hc0_3
  clear hr0_3 hc0_3
  have HB := Aside0.mk (Below.refl w.heap.size w)
  have H : (if a0_1 = 0 then (module_laid.j0 k (a0_2 == 0) a0_0 a0_1 a0_2 l0_3) else (module_laid.j0 k false a0_0 a0_1 a0_2 l0_3)) = some r := h
  clear h
  have HC2 := Aside0.mk H
  clear H
  go_enter Tryz.func79, Tryz.ntmps79
  go_upto_region 1 with (first | ((with_reducible refine gate_dst (N := 1) rfl ?_); (try (refine gate_guard (by rfl) ?_; dsimp only)); refine box_event ?hg (N := 1) ?hd (cs := #[.bool a0_0, .int .i64 a0_1, .int .i64 a0_2, .slice A0_3 l0_3.length c0_3]) (t := 76) ?hr ?_; (case hd => rfl); (case hg => rfl); (case hr => first | (go_simp; done) | (go_simp; rfl)); intro gb365 hg w3 hbox hb; have n0_ := Aside0.mk (below_step (by repeat (first | (with_reducible first | exact HB.out | apply below_alloc | apply pw_below_drewN | apply below_drew1) | exact HB.out)) hb); have n1_ := Aside0.mk (hbox); have n2_ := Aside0.mk ((by rw [hg]; exact (below_size (by repeat (first | (with_reducible first | exact HB.out | apply below_alloc | apply pw_below_drewN | apply below_drew1) | exact HB.out))) : w.heap.size ≤ gb365)); have n3_ := Aside0.mk ((by rw [hg]; exact (below_size (by repeat (first | (with_reducible first | exact HB.out | apply below_alloc | apply pw_below_drewN | apply below_drew1) | exact HB.out))) : w.heap.size ≤ gb365)); clear HB; have HB := n0_; have BK365 := n1_; have GW365 := n2_; have GE365 := n3_; clear n0_ n1_ n2_ n3_; clear hb hbox hg))
  (try simp only [Act.put, List.setIfInBounds_toArray, List.set_cons_zero, List.set_cons_succ])
  go_cut [3] (fun v3 wc => ∃ (kq : Nat) (x3_1 : Bool), v3 = .bool x3_1 ∧ Aside0 (module_laid.j0 kq x3_1 a0_0 a0_1 a0_2 l0_3 = some r) ∧ Aside0 (kq ≤ k) ∧ Aside0 (wc.heap[gb365]? = some (.cells #[.bool a0_0, .int .i64 a0_1, .int .i64 a0_2, (.slice A0_3 l0_3.length c0_3)] 76 (0, 0))) ∧ Aside0 (Below w.heap.size w wc))
  case first =>
    have H := HC2.out
    clear HC2
    by_cases c4 : a0_1 = 0
    · rw [if_pos c4] at H
      have c4b0 : (a0_1 == 0) = true := beq_iff_eq.mpr c4
      have c4b1 : (a0_1 != 0) = false := bne_eq_false_iff_eq.mpr c4
      clear c4
      (first | rw [c4b0] | (simp only [i64_w, i32_w]; rw [c4b0]) | skip)
      have H' := Aside0.mk H
      clear H
      have hcz5_0 : w3.cell? ⟨gb365, 0, none⟩ = some (.bool a0_0) := (blk_cell BK365.out 0).trans rfl
      have hcz5_1 : w3.cell? ⟨gb365, 1, none⟩ = some (.int .i64 a0_1) := (blk_cell BK365.out 1).trans rfl
      have hcz5_2 : w3.cell? ⟨gb365, 2, none⟩ = some (.int .i64 a0_2) := (blk_cell BK365.out 2).trans rfl
      have hcz5_3 : w3.cell? ⟨gb365, 3, none⟩ = some (.slice A0_3 l0_3.length c0_3) := (blk_cell BK365.out 3).trans rfl
      have hfz5_0 := blk_frozen BK365.out 0
      have hfz5_1 := blk_frozen BK365.out 1
      have hfz5_2 := blk_frozen BK365.out 2
      have hfz5_3 := blk_frozen BK365.out 3
      go_wp2
      go_meet
      case rel => exact ⟨_, ((a0_2 == 0)), (by first | rfl | (simp; done) | (simp [*]; done)), H', ⟨by first | omega | exact Nat.le_refl _⟩, ⟨by (with_reducible repeat (first | refine blk_drewN ?_ _ | refine blk_drew ?_ | refine blk_alloc ?_ _)); exact BK365.out⟩, ⟨by repeat (first | (with_reducible first | exact HB.out | apply below_alloc | apply pw_below_drewN | apply below_drew1 | refine below_set ?_ GE365.out) | exact HB.out)⟩⟩
    · rw [if_neg c4] at H
      have c4b0 : (a0_1 == 0) = false := beq_eq_false_iff_ne.mpr c4
      have c4b1 : (a0_1 != 0) = true := bne_iff_ne.mpr c4
      (first | rw [c4b0] | (simp only [i64_w, i32_w]; rw [c4b0]) | skip)
      have H' := Aside0.mk H
      clear H
      have hcz6_0 : w3.cell? ⟨gb365, 0, none⟩ = some (.bool a0_0) := (blk_cell BK365.out 0).trans rfl
      have hcz6_1 : w3.cell? ⟨gb365, 1, none⟩ = some (.int .i64 a0_1) := (blk_cell BK365.out 1).trans rfl
      have hcz6_2 : w3.cell? ⟨gb365, 2, none⟩ = some (.int .i64 a0_2) := (blk_cell BK365.out 2).trans rfl
      have hcz6_3 : w3.cell? ⟨gb365, 3, none⟩ = some (.slice A0_3 l0_3.length c0_3) := (blk_cell BK365.out 3).trans rfl
      have hfz6_0 := blk_frozen BK365.out 0
      have hfz6_1 := blk_frozen BK365.out 1
      have hfz6_2 := blk_frozen BK365.out 2
      have hfz6_3 := blk_frozen BK365.out 3
      go_wp2
      go_meet
      case rel => exact ⟨_, (false), (by first | rfl | (simp; done) | (simp [*]; done)), H', ⟨by first | omega | exact Nat.le_refl _⟩, ⟨by (with_reducible repeat (first | refine blk_drewN ?_ _ | refine blk_drew ?_ | refine blk_alloc ?_ _)); exact BK365.out⟩, ⟨by repeat (first | (with_reducible first | exact HB.out | apply below_alloc | apply pw_below_drewN | apply below_drew1 | refine below_set ?_ GE365.out) | exact HB.out)⟩⟩
  case rest =>
    clear HC2
    try clear p2
    try clear c4
    try clear c4b0
    try clear c4b1
    try clear hcz5_0
    try clear hcz5_1
    try clear hcz5_2
    try clear hcz5_3
    try clear hcz6_0
    try clear hcz6_1
    try clear hcz6_2
    try clear hcz6_3
    try clear hfz5_0
    try clear hfz5_1
    try clear hfz5_2
    try clear hfz5_3
    try clear hfz6_0
    try clear hfz6_1
    try clear hfz6_2
    try clear hfz6_3
    obtain ⟨kq, x3_1, rfl, HA, HJ1, BK365, HB⟩ := hcut
    cases kq with
    | zero => exact absurd HA.out (by simp [module_laid.j0])
    | succ kj1 =>
      have H := HA.out
      clear HA
      simp only [module_laid.j0] at H
      by_cases c7 : a0_0 = true
      · subst c7
        have H1 : ((module_within.f a0_1 4).bind fun t366 => (if t366 = true then ((module_index.f a0_2).bind fun t367 => (if t367 = true then (some (decide ((l0_3.length : Int) ≤ 1048576))) else (some false))) else (some false))) = some r := by rw [if_pos rfl] at H; exact H
        clear H
        have H := H1
        clear H1
        replace H := Option.bind_eq_some_iff.mp H
        obtain ⟨t366, A80, H⟩ := H
        replace H : (if t366 = true then ((module_index.f a0_2).bind fun t367 => (if t367 = true then (some (decide ((l0_3.length : Int) ≤ 1048576))) else (some false))) else (some false)) = some r := H
        have A8 := Aside0.mk A80
        clear A80
        by_cases c9 : t366 = true
        · subst c9
          have H1 : ((module_index.f a0_2).bind fun t367 => (if t367 = true then (some (decide ((l0_3.length : Int) ≤ 1048576))) else (some false))) = some r := by rw [if_pos rfl] at H; exact H
          clear H
          have H := H1
          clear H1
          replace H := Option.bind_eq_some_iff.mp H
          obtain ⟨t367, A100, H⟩ := H
          replace H : (if t367 = true then (some (decide ((l0_3.length : Int) ≤ 1048576))) else (some false)) = some r := H
          have A10 := Aside0.mk A100
          clear A100
          by_cases c11 : t367 = true
          · subst c11
            have H1 : (some (decide ((l0_3.length : Int) ≤ 1048576))) = some r := by rw [if_pos rfl] at H; exact H
            clear H
            have H := H1
            clear H1
            obtain rfl := Option.some.inj H
            have hcz12_0 : wc.cell? ⟨gb365, 0, none⟩ = some (.bool true) := (blk_cell BK365.out 0).trans rfl
            have hcz12_1 : wc.cell? ⟨gb365, 1, none⟩ = some (.int .i64 a0_1) := (blk_cell BK365.out 1).trans rfl
            have hcz12_2 : wc.cell? ⟨gb365, 2, none⟩ = some (.int .i64 a0_2) := (blk_cell BK365.out 2).trans rfl
            have hcz12_3 : wc.cell? ⟨gb365, 3, none⟩ = some (.slice A0_3 l0_3.length c0_3) := (blk_cell BK365.out 3).trans rfl
            have hfz12_0 := blk_frozen BK365.out 0
            have hfz12_1 := blk_frozen BK365.out 1
            have hfz12_2 := blk_frozen BK365.out 2
            have hfz12_3 := blk_frozen BK365.out 3
            go_wp2_with (first | ((with_reducible refine gate_callee (f := 137) rfl ?_); refine goesL_ (some 16) rfl rfl Tryz.func137 (by kernel_rfl) rfl #[.int .i64 a0_1, .int .i64 4] rfl (by (try simp only [List.map_toArray, List.map_cons, List.map_nil]); first | done | rfl | (simp only [List.length_drop, List.length_take]; rfl)) ?_; (with_reducible refine (module_within.calls a0_1 4 true _ A8.out).mono ?_); rintro e w' ⟨rfl, ⟨nd, rfl⟩⟩; refine ⟨_, rfl, ?_⟩) | (go_at_call 67; (with_reducible refine (module_index.calls a0_2 true _ A10.out).mono ?_); rintro e w' ⟨rfl, ⟨nd, rfl⟩⟩))
            go_ret
            exact ⟨by first | rfl | (simp [errW_none, errW_some] <;> rfl) | (simp [*, errW_none, errW_some] <;> rfl), by repeat (first | (with_reducible first | exact HB.out | apply below_alloc | apply pw_below_drewN | apply below_drew1 | refine below_set ?_ GE365.out) | exact HB.out)⟩
          · replace c11 := Bool.eq_false_iff.mpr c11
            subst c11
            have H1 : (some false) = some r := by rw [if_neg (show ¬ (false = true) by decide)] at H; exact H
            clear H
            have H := H1
            clear H1
            obtain rfl := Option.some.inj H
            have hcz13_0 : wc.cell? ⟨gb365, 0, none⟩ = some (.bool true) := (blk_cell BK365.out 0).trans rfl
            have hcz13_1 : wc.cell? ⟨gb365, 1, none⟩ = some (.int .i64 a0_1) := (blk_cell BK365.out 1).trans rfl
            have hcz13_2 : wc.cell? ⟨gb365, 2, none⟩ = some (.int .i64 a0_2) := (blk_cell BK365.out 2).trans rfl
            have hcz13_3 : wc.cell? ⟨gb365, 3, none⟩ = some (.slice A0_3 l0_3.length c0_3) := (blk_cell BK365.out 3).trans rfl
            have hfz13_0 := blk_frozen BK365.out 0
            have hfz13_1 := blk_frozen BK365.out 1
            have hfz13_2 := blk_frozen BK365.out 2
            have hfz13_3 := blk_frozen BK365.out 3
            go_wp2_with (first | ((with_reducible refine gate_callee (f := 137) rfl ?_); refine goesL_ (some 16) rfl rfl Tryz.func137 (by kernel_rfl) rfl #[.int .i64 a0_1, .int .i64 4] rfl (by (try simp only [List.map_toArray, List.map_cons, List.map_nil]); first | done | rfl | (simp only [List.length_drop, List.length_take]; rfl)) ?_; (with_reducible refine (module_within.calls a0_1 4 true _ A8.out).mono ?_); rintro e w' ⟨rfl, ⟨nd, rfl⟩⟩; refine ⟨_, rfl, ?_⟩) | (go_at_call 67; (with_reducible refine (module_index.calls a0_2 false _ A10.out).mono ?_); rintro e w' ⟨rfl, ⟨nd, rfl⟩⟩))
            go_ret
            exact ⟨by first | rfl | (simp [errW_none, errW_some] <;> rfl) | (simp [*, errW_none, errW_some] <;> rfl), by repeat (first | (with_reducible first | exact HB.out | apply below_alloc | apply pw_below_drewN | apply below_drew1 | refine below_set ?_ GE365.out) | exact HB.out)⟩
        · replace c9 := Bool.eq_false_iff.mpr c9
          subst c9
          have H1 : (some false) = some r := by rw [if_neg (show ¬ (false = true) by decide)] at H; exact H
          clear H
          have H := H1
          clear H1
          obtain rfl := Option.some.inj H
          have hcz14_0 : wc.cell? ⟨gb365, 0, none⟩ = some (.bool true) := (blk_cell BK365.out 0).trans rfl
          have hcz14_1 : wc.cell? ⟨gb365, 1, none⟩ = some (.int .i64 a0_1) := (blk_cell BK365.out 1).trans rfl
          have hcz14_2 : wc.cell? ⟨gb365, 2, none⟩ = some (.int .i64 a0_2) := (blk_cell BK365.out 2).trans rfl
          have hcz14_3 : wc.cell? ⟨gb365, 3, none⟩ = some (.slice A0_3 l0_3.length c0_3) := (blk_cell BK365.out 3).trans rfl
          have hfz14_0 := blk_frozen BK365.out 0
          have hfz14_1 := blk_frozen BK365.out 1
          have hfz14_2 := blk_frozen BK365.out 2
          have hfz14_3 := blk_frozen BK365.out 3
          go_wp2_with (first | ((with_reducible refine gate_callee (f := 137) rfl ?_); refine goesL_ (some 16) rfl rfl Tryz.func137 (by kernel_rfl) rfl #[.int .i64 a0_1, .int .i64 4] rfl (by (try simp only [List.map_toArray, List.map_cons, List.map_nil]); first | done | rfl | (simp only [List.length_drop, List.length_take]; rfl)) ?_; (with_reducible refine (module_within.calls a0_1 4 false _ A8.out).mono ?_); rintro e w' ⟨rfl, ⟨nd, rfl⟩⟩; refine ⟨_, rfl, ?_⟩))
          go_ret
          exact ⟨by first | rfl | (simp [errW_none, errW_some] <;> rfl) | (simp [*, errW_none, errW_some] <;> rfl), by repeat (first | (with_reducible first | exact HB.out | apply below_alloc | apply pw_below_drewN | apply below_drew1 | refine below_set ?_ GE365.out) | exact HB.out)⟩
      · replace c7 := Bool.eq_false_iff.mpr c7
        subst c7
        have H1 : (if x3_1 = true then (some (decide ((l0_3.length : Int) ≤ 1048576))) else (some false)) = some r := by rw [if_neg (show ¬ (false = true) by decide)] at H; exact H
        clear H
        have H := H1
        clear H1
        by_cases c15 : x3_1 = true
        · subst c15
          have H1 : (some (decide ((l0_3.length : Int) ≤ 1048576))) = some r := by rw [if_pos rfl] at H; exact H
          clear H
          have H := H1
          clear H1
          obtain rfl := Option.some.inj H
          have hcz16_0 : wc.cell? ⟨gb365, 0, none⟩ = some (.bool false) := (blk_cell BK365.out 0).trans rfl
          have hcz16_1 : wc.cell? ⟨gb365, 1, none⟩ = some (.int .i64 a0_1) := (blk_cell BK365.out 1).trans rfl
          have hcz16_2 : wc.cell? ⟨gb365, 2, none⟩ = some (.int .i64 a0_2) := (blk_cell BK365.out 2).trans rfl
          have hcz16_3 : wc.cell? ⟨gb365, 3, none⟩ = some (.slice A0_3 l0_3.length c0_3) := (blk_cell BK365.out 3).trans rfl
          have hfz16_0 := blk_frozen BK365.out 0
          have hfz16_1 := blk_frozen BK365.out 1
          have hfz16_2 := blk_frozen BK365.out 2
          have hfz16_3 := blk_frozen BK365.out 3
          go_wp2
          go_ret
          exact ⟨by first | rfl | (simp [errW_none, errW_some] <;> rfl) | (simp [*, errW_none, errW_some] <;> rfl), by repeat (first | (with_reducible first | exact HB.out | apply below_alloc | apply pw_below_drewN | apply below_drew1 | refine below_set ?_ GE365.out) | exact HB.out)⟩
        · replace c15 := Bool.eq_false_iff.mpr c15
          subst c15
          have H1 : (some false) = some r := by rw [if_neg (show ¬ (false = true) by decide)] at H; exact H
          clear H
          have H := H1
          clear H1
          obtain rfl := Option.some.inj H
          have hcz17_0 : wc.cell? ⟨gb365, 0, none⟩ = some (.bool false) := (blk_cell BK365.out 0).trans rfl
          have hcz17_1 : wc.cell? ⟨gb365, 1, none⟩ = some (.int .i64 a0_1) := (blk_cell BK365.out 1).trans rfl
          have hcz17_2 : wc.cell? ⟨gb365, 2, none⟩ = some (.int .i64 a0_2) := (blk_cell BK365.out 2).trans rfl
          have hcz17_3 : wc.cell? ⟨gb365, 3, none⟩ = some (.slice A0_3 l0_3.length c0_3) := (blk_cell BK365.out 3).trans rfl
          have hfz17_0 := blk_frozen BK365.out 0
          have hfz17_1 := blk_frozen BK365.out 1
          have hfz17_2 := blk_frozen BK365.out 2
          have hfz17_3 := blk_frozen BK365.out 3
          go_wp2
          go_ret
          exact ⟨by first | rfl | (simp [errW_none, errW_some] <;> rfl) | (simp [*, errW_none, errW_some] <;> rfl), by repeat (first | (with_reducible first | exact HB.out | apply below_alloc | apply pw_below_drewN | apply below_drew1 | refine below_set ?_ GE365.out) | exact HB.out)⟩
end Go.Proofs.YthehihjcpiadgaaGreat
end
section
namespace Go.Proofs.YthehihjcpiadgaaGreat
open Go.RowKit Go.Proofs.YthehihjcpiadgaaGreatW.PrintWords
set_option linter.unusedSimpArgs false
set_option linter.unusedVariables false
namespace Tx
theorem w64 {x : Int} (h0 : -9223372036854775808 ≤ x) (h1 : x ≤ 9223372036854775807) : wrap64 x = x := by unfold wrap64; omega
theorem l1 (m : Nat) : ∀ (x5 : Int) (l : List Int) (j : Nat) (k : Nat) (a b c d : Int), j ≤ l.length → l.length - j ≤ m → l.length < 1000 → 0 ≤ c → c < 1000 → ∃ r, text_sign.l1 (k + m + 1) x5 l (l.length : Int) (j : Int) a b c d = some r ∧ (r = 0 ∨ r = 1 + c) := by
  induction m with
  | zero =>
    intro x5 l j k a b c d h1 h2 h3 h4 h5
    unfold text_sign.l1
    rw [if_neg (by omega), w64 (by omega) (by omega)]
    (repeat' split) <;> exact ⟨_, rfl, by omega⟩
  | succ m ih =>
    intro x5 l j k a b c d h1 h2 h3 h4 h5
    rw [show k + (m + 1) + 1 = (k + m + 1) + 1 from rfl]
    unfold text_sign.l1
    by_cases hj : j < l.length
    · rw [if_pos (by omega), if_pos (by omega), if_pos (by omega), w64 (by omega) (by omega)]
      split
      · exact ih _ l (j + 1) k a b c d (by omega) (by omega) h3 h4 h5
      · exact ⟨_, rfl, .inl rfl⟩
    · rw [if_neg (by omega), w64 (by omega) (by omega)]
      (repeat' split) <;> exact ⟨_, rfl, by omega⟩
theorem j1 (k : Nat) (x0 : List Int) (x8 : List S231) (x9 x10 : Int) (f : Bool) (a b c d : Int) (h0 : 0 ≤ c) (h3 : c ≤ 3) (hf : f = false → c < x0.length) (hx : x0.length < 1000)
    (H : ∃ r, text_sign.l0 (k + 4) x0 x8 x9 (wrap64 (x10 + 1)) = some r ∧ 0 ≤ r ∧ r ≤ x0.length) : ∃ r, text_sign.j1 (k + 5) x0 x8 x9 x10 f a b c d = some r ∧ 0 ≤ r ∧ r ≤ x0.length := by
  unfold text_sign.j1
  cases f with
  | true => exact H
  | false =>
    have hc := hf rfl
    rw [if_neg (by simp), if_pos (by omega), w64 (by omega) (by omega), if_pos (by omega), if_pos (by omega)]
    have hlen : (List.drop 1 (List.take (1 + c).toNat x0)).length = c.toNat := by simp only [List.length_drop, List.length_take]; omega
    obtain ⟨r, hr, hv⟩ := l1 3 ((Go.bits .andNot .u8 (rd x0 0) a) % 4294967296) (List.drop 1 (List.take (1 + c).toNat x0)) 0 k a b c d (by omega) (by omega) (by omega) h0 (by omega)
    exact ⟨r, hr, by omega, by omega⟩
def K : List S231 := [⟨128, 0, 0, 0⟩, ⟨224, 192, 1, 128⟩, ⟨240, 224, 2, 2048⟩, ⟨248, 240, 3, 65536⟩]
theorem l0 (x0 : List Int) (hb : 0 < x0.length) (hx : x0.length < 1000) (m : Nat) : ∀ (i : Nat) (k : Nat), i + m = 4 → ∃ r, text_sign.l0 (k + 2 * m + 4) x0 K 4 (i : Int) = some r ∧ 0 ≤ r ∧ r ≤ x0.length := by
  induction m with
  | zero =>
    intro i k h
    unfold text_sign.l0
    rw [if_neg (by omega)]
    exact ⟨_, rfl, by omega, by omega⟩
  | succ m ih =>
    intro i k h
    have hK : (K.length : Int) = 4 := rfl
    have hk : 0 ≤ (rd_T231 K (i : Int)).f2 ∧ (rd_T231 K (i : Int)).f2 ≤ 3 := by
      have : i = 0 ∨ i = 1 ∨ i = 2 ∨ i = 3 := by omega
      rcases this with rfl | rfl | rfl | rfl <;> decide
    have hn := ih (i + 1) k (by omega)
    rw [show k + 2 * (m + 1) + 4 = (k + 2 * m + 5) + 1 from by omega]
    unfold text_sign.l0
    rw [if_pos (by omega), if_pos (by omega), if_pos (by omega), if_pos (by omega)]
    have hs : wrap64 ((i : Int) + 1) = ((i + 1 : Nat) : Int) := by rw [w64 (by omega) (by omega)]; rfl
    split
    · refine j1 (k + 2 * m) x0 K 4 i _ _ _ _ _ hk.1 hk.2 (fun hf => by have := of_decide_eq_false hf; omega) hx ?_
      rw [hs]; exact hn
    · refine j1 (k + 2 * m) x0 K 4 i _ _ _ _ _ hk.1 hk.2 (fun hf => by cases hf) hx ?_
      rw [hs]; exact hn
theorem sign (k : Nat) (x0 : List Int) (hb : 0 < x0.length) (hx : x0.length < 1000) : ∃ r, text_sign.f (k + 12) x0 = some r ∧ 0 ≤ r ∧ r ≤ x0.length := l0 x0 hb hx 4 0 k rfl
theorem count (m : Nat) : ∀ (x0 : List Int) (n : Nat) (k : Nat), x0.length ≤ m → m < 1000 → n + m < 2000 → ∃ r, text_Count.l0 (k + m + 13) x0 (n : Int) = some r := by
  induction m with
  | zero =>
    intro x0 n k h1 h2 h3
    unfold text_Count.l0
    rw [if_neg (by omega)]
    exact ⟨_, rfl⟩
  | succ m ih =>
    intro x0 n k h1 h2 h3
    rw [show k + (m + 1) + 13 = (k + m + 13) + 1 from by omega]
    unfold text_Count.l0
    by_cases hp : 0 < x0.length
    · rw [if_pos (by omega)]
      obtain ⟨r, hr, h0, h9⟩ := sign (k + m + 1) x0 hp (by omega)
      rw [hr, Option.bind_some]
      by_cases hz : r = 0
      · rw [if_pos hz]; exact ⟨_, rfl⟩
      · rw [if_neg hz, if_pos h0, if_pos h9, w64 (by omega) (by omega)]
        exact ih (x0.drop r.toNat) (n + 1) k (by rw [List.length_drop]; omega) (by omega) (by omega)
    · rw [if_neg (by omega)]
      exact ⟨_, rfl⟩
theorem right (x0 : List Int) (h : x0.length ≤ 500) : ∃ r, text_Right.f 1000 x0 = some r := by
  obtain ⟨r, hr⟩ := count 500 x0 0 487 h (by omega) (by omega)
  unfold text_Right.f text_Count.f
  have hr' : text_Count.l0 1000 x0 0 = some r := hr
  rw [hr']
  exact ⟨_, rfl⟩
end Tx
/-- Are these bytes a text? -/
def Sp.text (b : List Int) : Bool := (text_Right.f 1000 b).getD false
theorem text_some (b : List Int) (h : b.length ≤ 500) : text_Right.f 1000 b = some (Sp.text b) := by
  obtain ⟨r, hr⟩ := Tx.right b h
  rw [hr]; unfold Sp.text; rw [hr]; rfl
end Go.Proofs.YthehihjcpiadgaaGreat
end
section
namespace Go.Proofs.YthehihjcpiadgaaGreat
open Go.RowKit Go.Proofs.YthehihjcpiadgaaGreatW.PrintWords Go.Proofs.YthehihjcpiadgaaGreatW.PrintLast
set_option linter.unusedSimpArgs false
set_option linter.unusedVariables false
abbrev FramesR (w : World) (base : Nat) (ok : Nat → Prop) (v : Value) (xs : List SFr) : Prop := kFr.R 113 w base ok v xs
abbrev TypesR (w : World) (base : Nat) (ok : Nat → Prop) (v : Value) (xs : List Int) : Prop := (Kd.int .i64).R 3 w base ok v xs
/-- The cells of check.Stacks: eleven that stay, the types, the frames, whether something is wrong. -/
def stkCells (fx : List Value) (vT vF : Value) (bad : Bool) : Array Value := (fx ++ [vT, vF, .bool bad]).toArray
theorem stk_11 {fx : List Value} (h : fx.length = 11) (vT vF : Value) (b : Bool) : (stkCells fx vT vF b)[11]? = some vT := by simp [stkCells, List.getElem?_append, h]
theorem stk_12 {fx : List Value} (h : fx.length = 11) (vT vF : Value) (b : Bool) : (stkCells fx vT vF b)[12]? = some vF := by simp [stkCells, List.getElem?_append, h]
theorem stk_13 {fx : List Value} (h : fx.length = 11) (vT vF : Value) (b : Bool) : (stkCells fx vT vF b)[13]? = some (.bool b) := by simp [stkCells, List.getElem?_append, h]
theorem stk_set11 {fx : List Value} (h : fx.length = 11) (vT vF u : Value) (b : Bool) : (stkCells fx vT vF b).setIfInBounds 11 u = stkCells fx u vF b := by simp [stkCells, List.set_append, h]
theorem stk_set12 {fx : List Value} (h : fx.length = 11) (vT vF u : Value) (b : Bool) : (stkCells fx vT vF b).setIfInBounds 12 u = stkCells fx vT u b := by simp [stkCells, List.set_append, h]
theorem stk_set13 {fx : List Value} (h : fx.length = 11) (vT vF : Value) (b c : Bool) : (stkCells fx vT vF b).setIfInBounds 13 (.bool c) = stkCells fx vT vF c := by simp [stkCells, List.set_append, h]
/-- What D names lies as it lay. -/
structure KeepD (D : Nat → Prop) (w w' : World) : Prop where
  os : w'.os = w.os
  tape : w'.tape = w.tape
  output : w'.output = w.output
  size : w.heap.size ≤ w'.heap.size
  block : ∀ k, D k → w'.heap[k]? = w.heap[k]?
theorem KeepD.refl (D : Nat → Prop) (w : World) : KeepD D w w := ⟨rfl, rfl, rfl, Nat.le_refl _, fun _ _ => rfl⟩
theorem KeepD.trans {D : Nat → Prop} {a b c : World} (h : KeepD D a b) (k : KeepD D b c) : KeepD D a c := ⟨k.os.trans h.os, k.tape.trans h.tape, k.output.trans h.output, Nat.le_trans h.size k.size, fun i hi => (k.block i hi).trans (h.block i hi)⟩
theorem KeepD.drewN {D : Nat → Prop} {a b : World} (h : KeepD D a b) (n : Nat) : KeepD D a (b.drewN n) := ⟨h.os, h.tape, h.output, h.size, h.block⟩
theorem KeepD.set {D : Nat → Prop} {a b : World} (h : KeepD D a b) {g j : Nat} (hg : ¬ D g) (v : Value) : KeepD D a (b.setCell ⟨g, j, none⟩ v) :=
  ⟨h.os, h.tape, h.output, by simp only [World.setCell]; simpa using h.size, fun k hk => (Below.heap_setCell b ⟨g, j, none⟩ v k (fun e => hg (by rw [← show k = g from e]; exact hk))).trans (h.block k hk)⟩
theorem KeepD.below {D : Nat → Prop} {a b c : World} (h : KeepD D a b) (hD : ∀ k, D k → k < b.heap.size) (hb : Below b.heap.size b c) : KeepD D a c :=
  ⟨hb.os.trans h.os, hb.tape.trans h.tape, hb.output.trans h.output, Nat.le_trans h.size hb.size, fun k hk => (hb.block k (hD k hk)).trans (h.block k hk)⟩
theorem KeepD.grown {D : Nat → Prop} {a b c : World} (h : KeepD D a b) (hD : ∀ k, D k → k < b.heap.size) {row : Option Nat} (hg : b.grownBy c row) (hr : ∀ k, row = some k → ¬ D k) : KeepD D a c :=
  ⟨hg.os.trans h.os, hg.tape.trans h.tape, hg.output.trans h.output, Nat.le_trans h.size hg.size, fun k hk => (hg.block k (hD k hk) (fun e => hr k e.symm hk)).trans (h.block k hk)⟩
/-- Block g is a check.Stacks. D: blocks that are only read. -/
def StkAt (w : World) (base g : Nat) (D : Nat → Prop) (fx : List Value) (s : Sp.St) (vT vF : Value) : Prop :=
  w.heap[g]? = some (.cells (stkCells fx vT vF s.bad) 111 (0, 0)) ∧ fx.length = 11 ∧ base ≤ g ∧ ¬ D g ∧
  TypesR w base (fun k => k ≠ g ∧ some k ≠ vF.ownBlock ∧ ¬ D k) vT s.T ∧ FramesR w base (fun k => k ≠ g ∧ some k ≠ vT.ownBlock) vF s.F ∧ (∀ k, vF.ownBlock = some k → ¬ D k) ∧ (∀ k, D k → k < w.heap.size)
theorem stk_drewN {w : World} {base g : Nat} {D : Nat → Prop} {fx : List Value} {s : Sp.St} {vT vF : Value} (h : StkAt w base g D fx s vT vF) (n : Nat) : StkAt (w.drewN n) base g D fx s vT vF :=
  ⟨h.1, h.2.1, h.2.2.1, h.2.2.2.1, Kd.R_drewN h.2.2.2.2.1 n, Kd.R_drewN h.2.2.2.2.2.1 n, h.2.2.2.2.2.2.1, h.2.2.2.2.2.2.2⟩
theorem stk_alloc {w : World} {base g : Nat} {D : Nat → Prop} {fx : List Value} {s : Sp.St} {vT vF : Value} (h : StkAt w base g D fx s vT vF) (o : Obj) : StkAt (w.alloc o) base g D fx s vT vF :=
  ⟨blk_alloc h.1 o, h.2.1, h.2.2.1, h.2.2.2.1, Kd.R_alloc h.2.2.2.2.1 o, Kd.R_alloc h.2.2.2.2.2.1 o, h.2.2.2.2.2.2.1, fun k hk => by have := h.2.2.2.2.2.2.2 k hk; simp; omega⟩
/-- The last frame's place. -/
theorem stk_frames {w : World} {base g : Nat} {D : Nat → Prop} {fx : List Value} {s : Sp.St} {vT vF : Value} (h : StkAt w base g D fx s vT vF) (hp : 0 < s.F.length) :
    ∃ gf cap, vF = .slice (some ⟨gf, 0, none⟩) s.F.length cap ∧ gf ≠ g ∧ base ≤ gf ∧ ¬ D gf := by
  obtain ⟨_, _, _, _, hT, hF, hFD, _⟩ := h
  obtain ⟨gf, cap, rfl, hb, hlt, -⟩ := Kd.R_form hF hp
  exact ⟨gf, cap, rfl, (hF.1 gf (by simp [Value.ownBlock])).1, hb, hFD gf (by simp [Value.ownBlock])⟩
set_option maxRecDepth 100000 in
set_option maxHeartbeats 2000000 in
theorem stacks_top (w : World) (base g : Nat) (D : Nat → Prop) (fx : List Value) (s : Sp.St) (vT vF : Value) (h : StkAt w base g D fx s vT vF) (hI : Sp.SInv s) (gf cap : Nat) (hvF : vF = .slice (some ⟨gf, 0, none⟩) s.F.length cap) :
    Calls Tryz.prog 144 #[.pointer (some ⟨g, 0, none⟩)] w fun e w' => e = .returned (.pointer (some ⟨gf, (s.F.length - 1) * 5, none⟩)) ∧ ∃ n, w' = w.drewN n := by
  obtain ⟨i1, i2, i3, -⟩ := hI
  obtain ⟨j, hj⟩ : ∃ j, s.F.length = j + 1 := ⟨s.F.length - 1, by omega⟩
  have c0 : w.cell? ⟨g, 12, none⟩ = some (.slice (some ⟨gf, 0, none⟩) (j + 1) cap) := by rw [← hj, ← hvF]; exact (blk_cell h.1 12).trans (stk_12 h.2.1 _ _ _)
  have hj0 : (0 : Int) ≤ (j : Int) := by omega
  have hj1 : (j : Int) < (j : Int) + 1 := by omega
  have hj2 : (j : Int) < ((j + 1 : Nat) : Int) := by omega
  have e : s.F.length - 1 = j := by omega
  rw [e]
  have hw0 : wrap64 (j : Int) = (j : Int) := Tx.w64 (by omega) (by omega)
  clear hvF h hj e i1 i2 i3
  go_enter Tryz.func144, Tryz.ntmps144
  go_wp2_with fail
  go_quiet (fail)
  go_wp2_with fail
  go_ret
  exact ⟨rfl, _, rfl⟩
end Go.Proofs.YthehihjcpiadgaaGreat
end
section
namespace Go.Proofs.YthehihjcpiadgaaGreat
open Go.RowKit Go.Proofs.YthehihjcpiadgaaGreatW.PrintWords Go.Proofs.YthehihjcpiadgaaGreatW.PrintLast
set_option linter.unusedSimpArgs false
set_option linter.unusedVariables false
/-- What a method of check.Stacks turns: its own block, the rows of types and of frames. -/
structure Mv (g : Nat) (w w' : World) (vT vF vT' vF' : Value) : Prop where
  os : w'.os = w.os
  tape : w'.tape = w.tape
  output : w'.output = w.output
  size : w.heap.size ≤ w'.heap.size
  block : ∀ k, k < w.heap.size → k ≠ g → some k ≠ vT.ownBlock → some k ≠ vF.ownBlock → w'.heap[k]? = w.heap[k]?
  atT : ∀ k, vT'.ownBlock = some k → vT.ownBlock = some k ∨ w.heap.size ≤ k
  atF : ∀ k, vF'.ownBlock = some k → vF.ownBlock = some k ∨ w.heap.size ≤ k
theorem Mv.refl (g : Nat) (w : World) (vT vF : Value) : Mv g w w vT vF vT vF := ⟨rfl, rfl, rfl, Nat.le_refl _, fun _ _ _ _ _ => rfl, fun _ h => .inl h, fun _ h => .inl h⟩
theorem Mv.trans {g : Nat} {a b c : World} {t f t1 f1 t2 f2 : Value} (h : Mv g a b t f t1 f1) (k : Mv g b c t1 f1 t2 f2) : Mv g a c t f t2 f2 := by
  refine ⟨k.os.trans h.os, k.tape.trans h.tape, k.output.trans h.output, Nat.le_trans h.size k.size, fun i hi hg ht hf => ?_, fun i hi => ?_, fun i hi => ?_⟩
  · refine (k.block i (Nat.lt_of_lt_of_le hi h.size) hg (fun e => ?_) (fun e => ?_)).trans (h.block i hi hg ht hf)
    · rcases h.atT i e.symm with h1 | h1
      · exact ht h1.symm
      · omega
    · rcases h.atF i e.symm with h1 | h1
      · exact hf h1.symm
      · omega
  · rcases k.atT i hi with h1 | h1
    · exact h.atT i h1
    · exact .inr (Nat.le_trans h.size h1)
  · rcases k.atF i hi with h1 | h1
    · exact h.atF i h1
    · exact .inr (Nat.le_trans h.size h1)
theorem Mv.drewN {g : Nat} {a b : World} {t f t1 f1 : Value} (h : Mv g a b t f t1 f1) (n : Nat) : Mv g a (b.drewN n) t f t1 f1 := ⟨h.os, h.tape, h.output, h.size, h.block, h.atT, h.atF⟩
theorem Mv.same_T {g : Nat} {a b : World} {t f t1 f1 t2 : Value} (h : Mv g a b t f t1 f1) (e : t2.ownBlock = t1.ownBlock) : Mv g a b t f t2 f1 := ⟨h.os, h.tape, h.output, h.size, h.block, fun k hk => h.atT k (e ▸ hk), h.atF⟩
theorem Mv.set {g : Nat} {a b : World} {t f t1 f1 : Value} (h : Mv g a b t f t1 f1) (j : Nat) (v : Value) : Mv g a (b.setCell ⟨g, j, none⟩ v) t f t1 f1 :=
  ⟨h.os, h.tape, h.output, by simp only [World.setCell]; simpa using h.size, fun k hk hg ht hf => (Below.heap_setCell b ⟨g, j, none⟩ v k hg).trans (h.block k hk hg ht hf), h.atT, h.atF⟩
theorem Mv.grown {g : Nat} {a b c : World} {t f t1 f1 t2 : Value} (h : Mv g a b t f t1 f1) (hg : b.grownBy c t1.ownBlock) (hat : t2.ownBlock = t1.ownBlock ∨ ∃ k, t2.ownBlock = some k ∧ b.heap.size ≤ k) : Mv g a c t f t2 f1 := by
  refine h.trans ⟨hg.os, hg.tape, hg.output, hg.size, fun k hk _ ht _ => hg.block k hk ht, fun k hk => ?_, fun k hk => .inl hk⟩
  rcases hat with e | ⟨b, e, hb⟩
  · exact .inl (by rw [← e]; exact hk)
  · rw [e] at hk
    injection hk with hk
    exact .inr (by omega)
theorem Mv.keepD {g : Nat} {a b : World} {t f t1 f1 : Value} {D : Nat → Prop} (h : Mv g a b t f t1 f1) (hg : ¬ D g) (ht : ∀ k, t.ownBlock = some k → ¬ D k) (hf : ∀ k, f.ownBlock = some k → ¬ D k) (hD : ∀ k, D k → k < a.heap.size) : KeepD D a b :=
  ⟨h.os, h.tape, h.output, h.size, fun k hk => h.block k (hD k hk) (fun e => hg (e ▸ hk)) (fun e => ht k e.symm hk) (fun e => hf k e.symm hk)⟩
theorem Mv.setF {g gf : Nat} {a b : World} {t f t1 f1 : Value} (h : Mv g a b t f t1 f1) (e : f.ownBlock = some gf) (j : Nat) (v : Value) : Mv g a (b.setCell ⟨gf, j, none⟩ v) t f t1 f1 :=
  ⟨h.os, h.tape, h.output, by simp only [World.setCell]; simpa using h.size, fun k hk hg ht hf => (Below.heap_setCell b ⟨gf, j, none⟩ v k (fun q => hf (by rw [e, ← show k = gf from q]))).trans (h.block k hk hg ht hf), h.atT, h.atF⟩
/-- What a method leaves. -/
def StkEnd (g base : Nat) (D : Nat → Prop) (fx : List Value) (w : World) (vT vF : Value) (r : Value) (s' : Sp.St) (e : Ending) (w' : World) : Prop :=
  e = .returned r ∧ ∃ vT' vF', Mv g w w' vT vF vT' vF' ∧ StkAt w' base g D fx s' vT' vF'
/-- The types have turned: v1 holds them. -/
theorem stk_types {w1 : World} {base g : Nat} {D : Nat → Prop} {fx : List Value} {x0 vF v1 : Value} {s : Sp.St} {l : List Int} (hg : w1.heap[g]? = some (.cells (stkCells fx x0 vF s.bad) 111 (0, 0))) (hfx : fx.length = 11) (hb : base ≤ g) (hDg : ¬ D g)
    (hT : TypesR w1 base (fun k => k ≠ g ∧ some k ≠ vF.ownBlock ∧ ¬ D k) v1 l) (hF : FramesR w1 base (fun k => k ≠ g ∧ some k ≠ v1.ownBlock) vF s.F) (hFD : ∀ k, vF.ownBlock = some k → ¬ D k) (hD : ∀ k, D k → k < w1.heap.size) :
    StkAt (w1.setCell ⟨g, 11, none⟩ v1) base g D fx ⟨l, s.F, s.bad⟩ v1 vF := by
  refine ⟨?_, hfx, hb, hDg, Kd.R_far hT (fun k hk => hk.1) _, Kd.R_far hF (fun k hk => hk.1) _, hFD, fun k hk => ?_⟩
  · have := blk_set hg 11 v1
    rwa [stk_set11 hfx] at this
  · have := hD k hk
    simp only [World.setCell]; simpa using this
/-- The last frame is dead. -/
theorem stk_dead {w : World} {base g gf cap j n : Nat} {D : Nat → Prop} {fx : List Value} {vT : Value} {s : Sp.St} (h : StkAt w base g D fx s vT (.slice (some ⟨gf, 0, none⟩) n cap)) (hn : n = j + 1) (hl : s.F.length = n) : StkAt (w.setCell ⟨gf, j * 5 + 4, none⟩ (.bool true)) base g D fx ⟨s.T, s.F.set j ⟨(rd_TFr s.F (j : Int)).f0, (rd_TFr s.F (j : Int)).f1, (rd_TFr s.F (j : Int)).f2, true⟩, s.bad⟩ vT (.slice (some ⟨gf, 0, none⟩) n cap) := by
  obtain ⟨hg, hfx, hb, hDg, hT, hF, hFD, hD⟩ := h
  have hne : gf ≠ g := (hF.1 gf (by simp [Value.ownBlock])).1
  obtain ⟨cs, hcl, hcM, hcc, hcf⟩ := Kd.R_elem hF zFr (j : Int) (by omega) (by omega)
  obtain ⟨v1, v2, hcs, hr1, hr2⟩ := kFr_openM hcM
  subst hcs
  have hs := Kd.R_seg hF (j : Int) (by omega) (by omega) (c := _) (seg := [.bool true]) (j := 4) hcl hcc (show 4 + 1 ≤ 5 from by omega) (x' := ⟨(rd_TFr s.F (j : Int)).f0, (rd_TFr s.F (j : Int)).f1, (rd_TFr s.F (j : Int)).f2, true⟩) (okp := fun k => (k ≠ g ∧ some k ≠ vT.ownBlock) ∧ k ≠ gf) (kFr_mkM _ _ _ ⟨(rd_TFr s.F (j : Int)).f0, (rd_TFr s.F (j : Int)).f1, (rd_TFr s.F (j : Int)).f2, true⟩ hr1 hr2) (fun k hk => hk)
  rw [Int.toNat_natCast] at hs
  refine ⟨blk_far hg (Ne.symm hne) _, hfx, hb, hDg, ?_, ?_, hFD, fun k hk => ?_⟩
  · exact Kd.R_far hT (fun k hk e => hk.2.1 (by rw [show k = gf from e]; simp [Value.ownBlock])) _
  · exact hs.1
  · have := hD k hk
    simp only [World.setCell]; simpa using this
theorem stk_bad {w : World} {base g : Nat} {D : Nat → Prop} {fx : List Value} {vT vF : Value} {s : Sp.St} (h : StkAt w base g D fx s vT vF) (b : Bool) : StkAt (w.setCell ⟨g, 13, none⟩ (.bool b)) base g D fx ⟨s.T, s.F, b⟩ vT vF := by
  obtain ⟨hg, hfx, hb, hDg, hT, hF, hFD, hD⟩ := h
  refine ⟨?_, hfx, hb, hDg, Kd.R_far hT (fun k hk => hk.1) _, Kd.R_far hF (fun k hk => hk.1) _, hFD, fun k hk => ?_⟩
  · have := blk_set hg 13 (.bool b)
    rwa [stk_set13 hfx] at this
  · have := hD k hk
    simp only [World.setCell]; simpa using this
set_option maxRecDepth 100000 in
set_option maxHeartbeats 4000000 in
theorem stacks_push (w : World) (base g : Nat) (D : Nat → Prop) (fx : List Value) (s : Sp.St) (vT vF : Value) (h : StkAt w base g D fx s vT vF) (A : Option Addr) (cA : Nat) (l : List Int) (hC : IntsC w A l) (hl : s.T.length + l.length ≤ 1000000) : Calls Tryz.prog 146 #[.pointer (some ⟨g, 0, none⟩), .slice A l.length cA] w (StkEnd g base D fx w vT vF (.tuple #[]) (s.push l)) := by
  obtain ⟨hg0, hfx, hb, hDg, hT, hF, hFD, hD⟩ := h
  have c11 := (blk_cell hg0 11).trans (stk_11 hfx _ _ _)
  have f11 := blk_frozen hg0 11
  have glt := blk_lt hg0
  have hFlt := Kd.R_lt hF
  obtain ⟨P, kT, rfl⟩ := Kd.R_slice hT
  have HFR := Lib.hid (show ∀ k, w.heap.size ≤ k → k ≠ g ∧ some k ≠ vF.ownBlock ∧ ¬ D k from fun k hk => ⟨by omega, fun e => by have := hFlt k e.symm; omega, fun e => by have := hD k e; omega⟩)
  have HB0 := Lib.hid (show Below base w w from ⟨rfl, rfl, rfl, Nat.le_refl _, fun _ _ => rfl⟩)
  have HBS := Lib.hid (show base ≤ w.heap.size by omega)
  have HG := Lib.hid hg0; have HT := Lib.hid hT; have HF := Lib.hid hF; have HC := Lib.hid hC; have HL := Lib.hid hl; have HFX := Lib.hid hfx; have HFD := Lib.hid hFD; have HD := Lib.hid hD
  clear hg0 hT hF hC hl hfx hFD hD hFlt
  go_enter Tryz.func146, Tryz.ntmps146
  go_wp2_with (first | (at_builtin; (refine Kd.R_append_rows (Kd.int .i64) (w0 := w) base rfl (.tmp 8) (.tmp 9) 23 3 (.int .i64 0) 8 rfl Tryz.underlying23 infoInt rfl Nat.zero_lt_one (Nat.zero_lt_succ 7) (.slice P s.T.length kT) s.T l A l.length cA (fun k => k ≠ g ∧ some k ≠ vF.ownBlock ∧ ¬ D k) (fun _ => False) rfl rfl ?ho ?hr (fun _ _ h => h) (fun _ h => h.elim) ?hfr ?hb ?hsz ?hl2 ?_); (case ho => exact HT.out); (case hr => exact HC.out); (case hfr => exact HFR.out); (case hb => exact HB0.out); (case hsz => exact HBS.out); (case hl2 => have := HL.out; omega); intro v1 w1 hR hB hG hat; obtain ⟨P1, k1, rfl⟩ := Kd.R_slice hR; simp only [List.length_append] at hR hat; have hg1 : w1.heap[g]? = some (.cells (stkCells fx (.slice P s.T.length kT) vF s.bad) 111 (0, 0)) := blk_grown HG.out hG (Kd.R_away HT.out (fun k hk => hk.1)); have d11 := (blk_cell hg1 11).trans (stk_11 HFX.out _ _ _); have k11 := blk_frozen hg1 11; have HF1 := Lib.hid (Kd.R_after (ok := fun k => k ≠ g) (Kd.R_mono HF.out (fun k hk => ⟨hk.1, hk.2⟩)) hG hat); have HR1 := Lib.hid hR; have HG1 := Lib.hid hg1; have HGB := Lib.hid hG; have HAT := Lib.hid hat; clear hR hB hG hat hg1))
  go_end0
  refine ⟨rfl, _, _, ((Mv.refl g w _ _).grown HGB.out HAT.out).set 11 _, ?_⟩
  have hs := HGB.out.size
  exact stk_types (s := s) HG1.out HFX.out hb hDg HR1.out HF1.out HFD.out (fun k hk => by have := HD.out k hk; omega)
set_option maxRecDepth 100000 in
set_option maxHeartbeats 4000000 in
theorem stacks_any0 (w : World) (base g : Nat) (D : Nat → Prop) (fx : List Value) (s : Sp.St) (vT vF : Value) (h : StkAt w base g D fx s vT vF) (hI : Sp.SInv s) (hle : (s.T.length : Int) ≤ s.top.f2) : Calls Tryz.prog 96 #[.pointer (some ⟨g, 0, none⟩)] w (StkEnd g base D fx w vT vF (.int .i64 0) ⟨s.T, s.F, s.bad || !s.top.f3⟩) := by
  obtain ⟨gf, cap, hvF, hgfg, hgfb, hgfD⟩ := stk_frames h hI.1
  have HTOP := Lib.hid (stacks_top w base g D fx s vT vF h hI gf cap hvF)
  subst hvF
  obtain ⟨i1, i2, i3, i4, i5⟩ := hI
  obtain ⟨j, hj⟩ : ∃ j, s.F.length = j + 1 := ⟨s.F.length - 1, by omega⟩
  obtain ⟨t0, t1⟩ := i4 (j : Int) (by omega) (by omega)
  have htop : s.top = rd_TFr s.F (j : Int) := by unfold Sp.St.top; rw [hj]; congr 1; omega
  have HS := Lib.hid h
  obtain ⟨hg0, hfx, hb, hDg, hT, hF, hFD, hD⟩ := h
  obtain ⟨cs, hcl, hcM, hcc, hcf⟩ := Kd.R_elem hF zFr (j : Int) (by omega) (by omega)
  obtain ⟨v1, v2, hcs, hr1, hr2⟩ := kFr_openM hcM
  subst hcs
  rw [Int.toNat_natCast] at hcc hcf hr1 hr2
  obtain ⟨f, hf⟩ : ∃ f, f = rd_TFr s.F (j : Int) := ⟨_, rfl⟩
  rw [show s.F.getD j zFr = f from hf.symm] at hcc hr1 hr2
  rw [← hf] at htop t0 t1
  have m3 : w.cell? ⟨gf, j * 5 + 3, none⟩ = some (.int .i64 f.f2) := hcc 3 _ rfl
  have m4 : w.cell? ⟨gf, j * 5 + 4, none⟩ = some (.bool f.f3) := hcc 4 _ rfl
  have n4 : w.frozen? ⟨gf, j * 5 + 4, none⟩ = false := hcf 4
  have ej : s.F.length - 1 = j := by omega
  rw [ej] at HTOP
  have c11 := (blk_cell hg0 11).trans (stk_11 hfx _ _ _)
  have c13 := (blk_cell hg0 13).trans (stk_13 hfx _ _ _)
  have f11 := blk_frozen hg0 11
  have f13 := blk_frozen hg0 13
  obtain ⟨P, kT, rfl⟩ := Kd.R_slice hT
  rw [htop] at hle ⊢
  have hle1 : decide ((s.T.length : Int) ≤ f.f2) = true := decide_eq_true hle
  clear htop hf
  clear hg0 hT hF hFD hD hcc hcf hcl hcM hr1 hr2 hfx i4 i5
  cases hbd : s.bad with
  | true =>
    rw [hbd] at c13
    go_enter Tryz.func96, Tryz.ntmps96
    go_wp2_with (first | ((go_at_call 144); (with_reducible refine HTOP.out.mono ?_); rintro e w' ⟨rfl, nt, rfl⟩))
    go_quiet (fail)
    go_wp2_with fail
    go_ret
    refine ⟨rfl, _, _, (((Mv.refl g w _ _).drewN _)).set 13 _, ?_⟩
    exact stk_bad (stk_drewN HS.out _) true
  | false =>
    rw [hbd] at c13
    go_enter Tryz.func96, Tryz.ntmps96
    go_wp2_with (first | ((go_at_call 144); (with_reducible refine HTOP.out.mono ?_); rintro e w' ⟨rfl, nt, rfl⟩))
    go_quiet (fail)
    go_wp2_with fail
    go_ret
    refine ⟨rfl, _, _, (((Mv.refl g w _ _).drewN _)).set 13 _, ?_⟩
    rw [Bool.false_or]
    exact stk_bad (stk_drewN HS.out _) _
set_option maxRecDepth 100000 in
set_option maxHeartbeats 4000000 in
theorem stacks_any1 (w : World) (base g : Nat) (D : Nat → Prop) (fx : List Value) (s : Sp.St) (vT vF : Value) (h : StkAt w base g D fx s vT vF) (hI : Sp.SInv s) (hle : ¬ (s.T.length : Int) ≤ s.top.f2) : Calls Tryz.prog 96 #[.pointer (some ⟨g, 0, none⟩)] w (StkEnd g base D fx w vT vF (.int .i64 (rd s.T ((s.T.length : Int) - 1))) ⟨s.T.take (s.T.length - 1), s.F, s.bad⟩) := by
  obtain ⟨gf, cap, hvF, hgfg, hgfb, hgfD⟩ := stk_frames h hI.1
  have HTOP := Lib.hid (stacks_top w base g D fx s vT vF h hI gf cap hvF)
  subst hvF
  obtain ⟨i1, i2, i3, i4, i5⟩ := hI
  obtain ⟨j, hj⟩ : ∃ j, s.F.length = j + 1 := ⟨s.F.length - 1, by omega⟩
  obtain ⟨t0, t1⟩ := i4 (j : Int) (by omega) (by omega)
  have htop : s.top = rd_TFr s.F (j : Int) := by unfold Sp.St.top; rw [hj]; congr 1; omega
  have HS := Lib.hid h
  obtain ⟨hg0, hfx, hb, hDg, hT, hF, hFD, hD⟩ := h
  obtain ⟨cs, hcl, hcM, hcc, hcf⟩ := Kd.R_elem hF zFr (j : Int) (by omega) (by omega)
  obtain ⟨v1, v2, hcs, hr1, hr2⟩ := kFr_openM hcM
  subst hcs
  rw [Int.toNat_natCast] at hcc hcf hr1 hr2
  obtain ⟨f, hf⟩ : ∃ f, f = rd_TFr s.F (j : Int) := ⟨_, rfl⟩
  rw [show s.F.getD j zFr = f from hf.symm] at hcc hr1 hr2
  rw [← hf] at htop t0 t1
  have m3 : w.cell? ⟨gf, j * 5 + 3, none⟩ = some (.int .i64 f.f2) := hcc 3 _ rfl
  have m4 : w.cell? ⟨gf, j * 5 + 4, none⟩ = some (.bool f.f3) := hcc 4 _ rfl
  have n4 : w.frozen? ⟨gf, j * 5 + 4, none⟩ = false := hcf 4
  have ej : s.F.length - 1 = j := by omega
  rw [ej] at HTOP
  have c11 := (blk_cell hg0 11).trans (stk_11 hfx _ _ _)
  have c13 := (blk_cell hg0 13).trans (stk_13 hfx _ _ _)
  have f11 := blk_frozen hg0 11
  have f13 := blk_frozen hg0 13
  rw [htop] at hle
  have hTp : 0 < s.T.length := by omega
  obtain ⟨gT, kT, rfl, -, -, -⟩ := Kd.R_form hT hTp
  obtain ⟨m, hm⟩ : ∃ m, s.T.length = m + 1 := ⟨s.T.length - 1, by omega⟩
  have hel := (Kd.R_cell (0 : Int) hT (m : Int) (by omega) (by omega)).1
  rw [Int.toNat_natCast] at hel
  have hel2 : w.cell? ⟨gT, m, none⟩ = some (.int .i64 (rd s.T (m : Int))) := hel
  have ev : (s.T.length : Int) - 1 = (m : Int) := by omega
  rw [ev]
  obtain ⟨r, hr⟩ : ∃ r, r = rd s.T (m : Int) := ⟨_, rfl⟩
  rw [← hr] at hel2 ⊢
  have hle1 : decide ((m : Int) + 1 ≤ f.f2) = false := decide_eq_false (by omega)
  have hle2 : ¬ ((m : Int) + 1 ≤ f.f2) := by omega
  rw [hm] at c11
  have hm0 : (0 : Int) ≤ (m : Int) := by omega
  have hm1 : (m : Int) < (m : Int) + 1 := by omega
  have hcap : (m : Int) ≤ (kT : Int) := by have := (Kd.R_reads' hT).2.1; omega
  have HT := Lib.hid hT; have HF := Lib.hid hF; have HG := Lib.hid hg0; have HFX := Lib.hid hfx; have HFD := Lib.hid hFD; have HD := Lib.hid hD; have HMM := Lib.hid hm
  have hw0 : wrap64 (m : Int) = (m : Int) := Tx.w64 (by omega) (by omega)
  have hwi : IntKind.i64.wrap (m : Int) = (m : Int) := (wi64 _).trans hw0
  clear htop hf hel hr hm ev hle hTp
  clear hg0 hT hF hFD hD hcc hcf hcl hcM hr1 hr2 hfx i4 i5
  go_enter Tryz.func96, Tryz.ntmps96
  go_wp2_with (first | ((go_at_call 144); (with_reducible refine HTOP.out.mono ?_); rintro e w' ⟨rfl, nt, rfl⟩))
  go_quiet (fail)
  go_wp2_with fail
  go_quiet (fail)
  go_wp2_with fail
  refine start_ (n := 15) (S := fun w' => w'.cell? ⟨g, 11, none⟩ = some (.slice (some ⟨gT, 0, none⟩) (m + 1) kT)) (ds := [14]) #[false, false, false, false, false, false, false, false, false, false, false, false, false, false, false] (by kernel_rfl) rfl rfl c11 (fun hHeld => ?_)
  refine pure_ (i := 0) (N := some 43) (v := ?_) (a' := ?_) #[true, false, false, false, false, false, false, false, false, false, false, false, false, false, false] rfl rfl (by kernel_rfl) (fun _ _ _ h => h) (Or.inl ⟨by rfl, ?_⟩) ?_ ?_
  rotate_left
  · intro w'
    go_simp
    try with_reducible rfl
  rotate_left
  · simp only [Act.put, List.setIfInBounds_toArray, List.set_cons_zero, List.set_cons_succ, i64_w, i32_w]
    rfl
  refine pure_ (i := 1) (N := some 44) (v := ?_) (a' := ?_) #[true, true, false, false, false, false, false, false, false, false, false, false, false, false, false] rfl rfl (by kernel_rfl) (fun _ _ _ h => h) (Or.inl ⟨by rfl, ?_⟩) ?_ ?_
  rotate_left
  · intro w'
    go_simp
    try with_reducible rfl
  rotate_left
  · simp only [Act.put, List.setIfInBounds_toArray, List.set_cons_zero, List.set_cons_succ, i64_w, i32_w]
    rfl
  refine pure_ (i := 2) (N := some 45) (v := ?_) (a' := ?_) #[true, true, true, false, false, false, false, false, false, false, false, false, false, false, false] rfl rfl (by kernel_rfl) (fun _ _ _ h => h) (Or.inl ⟨by rfl, ?_⟩) ?_ ?_
  rotate_left
  · intro w'
    go_simp
    try with_reducible rfl
  rotate_left
  · simp only [Act.put, List.setIfInBounds_toArray, List.set_cons_zero, List.set_cons_succ, i64_w, i32_w]
    rfl
  refine pure_ (i := 3) (N := some 46) (v := ?_) (a' := ?_) #[true, true, true, true, false, false, false, false, false, false, false, false, false, false, false] rfl rfl (by kernel_rfl) (fun _ _ _ h => h) (Or.inl ⟨by rfl, ?_⟩) ?_ ?_
  rotate_left
  · intro w'
    go_simp
    try with_reducible rfl
  rotate_left
  · simp only [Act.put, List.setIfInBounds_toArray, List.set_cons_zero, List.set_cons_succ, i64_w, i32_w]
    rfl
  refine take_ (i := 4) (N := some 47) (v := ?_) (a' := ?_) #[true, true, true, true, true, false, false, false, false, false, false, false, false, false, false] rfl rfl (by kernel_rfl) (fun _ _ _ h => h) (Or.inl ⟨by rfl, ?_⟩) hHeld ?_ ?_
  rotate_left
  · intro w' s0
    go_simp
    try with_reducible rfl
  rotate_left
  · simp only [Act.put, List.setIfInBounds_toArray, List.set_cons_zero, List.set_cons_succ, i64_w, i32_w]
    rfl
  refine pure_ (i := 5) (N := some 48) (v := ?_) (a' := ?_) #[true, true, true, true, true, true, false, false, false, false, false, false, false, false, false] rfl rfl (by kernel_rfl) (fun _ _ _ h => h) (Or.inl ⟨by rfl, ?_⟩) ?_ ?_
  rotate_left
  · intro w'
    go_simp
    try with_reducible rfl
  rotate_left
  · simp only [Act.put, List.setIfInBounds_toArray, List.set_cons_zero, List.set_cons_succ, i64_w, i32_w]
    rfl
  refine pure_ (i := 6) (N := some 49) (v := ?_) (a' := ?_) #[true, true, true, true, true, true, true, false, false, false, false, false, false, false, false] rfl rfl (by kernel_rfl) (fun _ _ _ h => h) (Or.inl ⟨by rfl, ?_⟩) ?_ ?_
  rotate_left
  · intro w'
    go_simp
    try with_reducible rfl
  rotate_left
  · simp only [Act.put, List.setIfInBounds_toArray, List.set_cons_zero, List.set_cons_succ, i64_w, i32_w]
    rfl
  refine pure_ (i := 7) (N := some 50) (v := ?_) (a' := ?_) #[true, true, true, true, true, true, true, true, false, false, false, false, false, false, false] rfl rfl (by kernel_rfl) (fun _ _ _ h => h) (Or.inl ⟨by rfl, ?_⟩) ?_ ?_
  rotate_left
  · intro w'
    go_simp
    try with_reducible rfl
  rotate_left
  · simp only [Act.put, List.setIfInBounds_toArray, List.set_cons_zero, List.set_cons_succ, i64_w, i32_w]
    rfl
  refine take_ (i := 8) (N := some 51) (v := ?_) (a' := ?_) #[true, true, true, true, true, true, true, true, true, false, false, false, false, false, false] rfl rfl (by kernel_rfl) (fun _ _ _ h => h) (Or.inl ⟨by rfl, ?_⟩) hHeld ?_ ?_
  rotate_left
  · intro w' s0
    go_simp
    try with_reducible rfl
  rotate_left
  · simp only [Act.put, List.setIfInBounds_toArray, List.set_cons_zero, List.set_cons_succ, i64_w, i32_w]
    rfl
  refine pure_ (i := 9) (N := some 52) (v := ?_) (a' := ?_) #[true, true, true, true, true, true, true, true, true, true, false, false, false, false, false] rfl rfl (by kernel_rfl) (fun _ _ _ h => h) (Or.inl ⟨by rfl, ?_⟩) ?_ ?_
  rotate_left
  · intro w'
    go_simp
    try with_reducible rfl
  rotate_left
  · simp only [Act.put, List.setIfInBounds_toArray, List.set_cons_zero, List.set_cons_succ, i64_w, i32_w]
    rfl
  refine pure_ (i := 10) (N := some 53) (v := ?_) (a' := ?_) #[true, true, true, true, true, true, true, true, true, true, true, false, false, false, false] rfl rfl (by kernel_rfl) (fun _ _ _ h => h) (Or.inl ⟨by rfl, ?_⟩) ?_ ?_
  rotate_left
  · intro w'
    go_simp
    try with_reducible rfl
  rotate_left
  · simp only [Act.put, List.setIfInBounds_toArray, List.set_cons_zero, List.set_cons_succ, i64_w, i32_w]
    rfl
  refine pure_ (i := 11) (N := some 54) (v := ?_) (a' := ?_) #[true, true, true, true, true, true, true, true, true, true, true, true, false, false, false] rfl rfl (by kernel_rfl) (fun _ _ _ h => h) (Or.inl ⟨by rfl, ?_⟩) ?_ ?_
  rotate_left
  · intro w'
    go_simp
    try with_reducible rfl
  rotate_left
  · simp only [Act.put, List.setIfInBounds_toArray, List.set_cons_zero, List.set_cons_succ, i64_w, i32_w]
    rfl
  refine pure_ (i := 12) (N := some 55) (v := ?_) (a' := ?_) #[true, true, true, true, true, true, true, true, true, true, true, true, true, false, false] rfl rfl (by kernel_rfl) (fun _ _ _ h => h) (Or.inl ⟨by rfl, ?_⟩) ?_ ?_
  rotate_left
  · intro w'
    go_simp
    try with_reducible rfl
  rotate_left
  · simp only [Act.put, List.setIfInBounds_toArray, List.set_cons_zero, List.set_cons_succ, i64_w, i32_w]
    rfl
  refine pure_ (i := 13) (N := some 56) (v := ?_) (a' := ?_) #[true, true, true, true, true, true, true, true, true, true, true, true, true, true, false] rfl rfl (by kernel_rfl) (fun _ _ _ h => h) (Or.inl ⟨by rfl, ?_⟩) ?_ ?_
  rotate_left
  · intro w'
    go_simp
    try with_reducible rfl
  rotate_left
  · simp only [Act.put, List.setIfInBounds_toArray, List.set_cons_zero, List.set_cons_succ, i64_w, i32_w]
    rfl
  refine last_ (i := 14) (N := none) #[true, true, true, true, true, true, true, true, true, true, true, true, true, true, true] rfl rfl (by kernel_rfl) (by decide) (fun K hK => ?_)
  rw [if_pos (by rfl)]
  go_simp
  refine hK.out _ _ ?_
  clear hK K
  refine done_ (by kernel_rfl) ?_
  go_wp2_with fail
  go_ret
  refine ⟨rfl, .slice (some ⟨gT, 0, none⟩) m kT, _, (((Mv.refl g w (.slice (some ⟨gT, 0, none⟩) s.T.length kT) _).drewN _).set 11 (.slice (some ⟨gT, 0, none⟩) m kT)).same_T rfl, ?_⟩
  clear hw0 hwi
  have hmm := HMM.out
  have e : s.T.length - 1 = m := by omega
  rw [e]
  exact stk_types (s := s) (by exact HG.out) HFX.out hb hDg (Kd.R_drewN (Kd.R_take (m := m) HT.out (by omega)) _) (Kd.R_mono (Kd.R_drewN HF.out _) (fun k hk => ⟨hk.1, hk.2⟩)) HFD.out HD.out
theorem stacks_any (w : World) (base g : Nat) (D : Nat → Prop) (fx : List Value) (s : Sp.St) (vT vF : Value) (h : StkAt w base g D fx s vT vF) (hI : Sp.SInv s) : Calls Tryz.prog 96 #[.pointer (some ⟨g, 0, none⟩)] w (StkEnd g base D fx w vT vF (.int .i64 s.any.1) s.any.2) := by
  unfold Sp.St.any
  by_cases hle : (s.T.length : Int) ≤ s.top.f2
  · rw [if_pos hle]
    exact stacks_any0 w base g D fx s vT vF h hI hle
  · rw [if_neg hle]
    exact stacks_any1 w base g D fx s vT vF h hI hle
set_option maxRecDepth 100000 in
set_option maxHeartbeats 4000000 in
theorem stacks_die (w : World) (base g : Nat) (D : Nat → Prop) (fx : List Value) (s : Sp.St) (vT vF : Value) (h : StkAt w base g D fx s vT vF) (hI : Sp.SInv s) : Calls Tryz.prog 90 #[.pointer (some ⟨g, 0, none⟩)] w (StkEnd g base D fx w vT vF (.tuple #[]) s.die) := by
  obtain ⟨gf, cap, hvF, hgfg, hgfb, hgfD⟩ := stk_frames h hI.1
  have HTOP := Lib.hid (stacks_top w base g D fx s vT vF h hI gf cap hvF)
  subst hvF
  obtain ⟨i1, i2, i3, i4, i5⟩ := hI
  obtain ⟨j, hj⟩ : ∃ j, s.F.length = j + 1 := ⟨s.F.length - 1, by omega⟩
  obtain ⟨t0, t1⟩ := i4 (j : Int) (by omega) (by omega)
  have htop : s.top = rd_TFr s.F (j : Int) := by unfold Sp.St.top; rw [hj]; congr 1; omega
  have HS := Lib.hid h
  obtain ⟨hg0, hfx, hb, hDg, hT, hF, hFD, hD⟩ := h
  obtain ⟨cs, hcl, hcM, hcc, hcf⟩ := Kd.R_elem hF zFr (j : Int) (by omega) (by omega)
  obtain ⟨v1, v2, hcs, hr1, hr2⟩ := kFr_openM hcM
  subst hcs
  rw [Int.toNat_natCast] at hcc hcf hr1 hr2
  obtain ⟨f, hf⟩ : ∃ f, f = rd_TFr s.F (j : Int) := ⟨_, rfl⟩
  rw [show s.F.getD j zFr = f from hf.symm] at hcc hr1 hr2
  rw [← hf] at htop t0 t1
  have m3 : w.cell? ⟨gf, j * 5 + 3, none⟩ = some (.int .i64 f.f2) := hcc 3 _ rfl
  have m4 : w.cell? ⟨gf, j * 5 + 4, none⟩ = some (.bool f.f3) := hcc 4 _ rfl
  have n4 : w.frozen? ⟨gf, j * 5 + 4, none⟩ = false := hcf 4
  have ej : s.F.length - 1 = j := by omega
  rw [ej] at HTOP
  have c11 := (blk_cell hg0 11).trans (stk_11 hfx _ _ _)
  have c13 := (blk_cell hg0 13).trans (stk_13 hfx _ _ _)
  have f11 := blk_frozen hg0 11
  have f13 := blk_frozen hg0 13
  have hD1 : s.die = ⟨s.T.take f.f2.toNat, s.F.set j ⟨f.f0, f.f1, f.f2, true⟩, s.bad⟩ := by unfold Sp.St.die; rw [htop, ej]
  rw [hD1]
  obtain ⟨P, kT, rfl⟩ := Kd.R_slice hT
  have hcap : f.f2 ≤ (kT : Int) := by have := (Kd.R_reads' hT).2.1; omega
  have hh : f.f2.toNat ≤ s.T.length := by omega
  have HT := Lib.hid hT; have HF := Lib.hid hF; have HG := Lib.hid hg0; have HFX := Lib.hid hfx; have HFD := Lib.hid hFD; have HD := Lib.hid hD; have HJ := Lib.hid hj; have HCL := Lib.hid hcl; have HCC := Lib.hid hcc; have HR1 := Lib.hid hr1; have HR2 := Lib.hid hr2
  have HZ := Lib.hid hf
  clear htop hf hD1
  clear hg0 hT hF hFD hD hcc hcf hcl hcM hr1 hr2 hfx i4 i5
  go_enter Tryz.func90, Tryz.ntmps90
  go_wp2_with (first | ((go_at_call 144); (with_reducible refine HTOP.out.mono ?_); rintro e w' ⟨rfl, nt, rfl⟩))
  refine start_ (n := 13) (S := fun w' => w'.cell? ⟨g, 11, none⟩ = some (.slice P s.T.length kT) ∧ w'.cell? ⟨gf, j * 5 + 3, none⟩ = some (.int .i64 f.f2)) (ds := [12]) #[false, false, false, false, false, false, false, false, false, false, false, false, false] (by kernel_rfl) rfl rfl ⟨c11, m3⟩ (fun hHeld => ?_)
  refine pure_ (i := 0) (N := some 5) (v := ?_) (a' := ?_) #[true, false, false, false, false, false, false, false, false, false, false, false, false] rfl rfl (by kernel_rfl) (fun _ _ _ h => h) (Or.inl ⟨by rfl, ?_⟩) ?_ ?_
  rotate_left
  · intro w'
    go_simp
    try with_reducible rfl
  rotate_left
  · simp only [Act.put, List.setIfInBounds_toArray, List.set_cons_zero, List.set_cons_succ, i64_w, i32_w]
    rfl
  refine pure_ (i := 1) (N := some 6) (v := ?_) (a' := ?_) #[true, true, false, false, false, false, false, false, false, false, false, false, false] rfl rfl (by kernel_rfl) (fun _ _ _ h => h) (Or.inl ⟨by rfl, ?_⟩) ?_ ?_
  rotate_left
  · intro w'
    go_simp
    try with_reducible rfl
  rotate_left
  · simp only [Act.put, List.setIfInBounds_toArray, List.set_cons_zero, List.set_cons_succ, i64_w, i32_w]
    rfl
  refine pure_ (i := 2) (N := some 7) (v := ?_) (a' := ?_) #[true, true, true, false, false, false, false, false, false, false, false, false, false] rfl rfl (by kernel_rfl) (fun _ _ _ h => h) (Or.inl ⟨by rfl, ?_⟩) ?_ ?_
  rotate_left
  · intro w'
    go_simp
    try with_reducible rfl
  rotate_left
  · simp only [Act.put, List.setIfInBounds_toArray, List.set_cons_zero, List.set_cons_succ, i64_w, i32_w]
    rfl
  refine pure_ (i := 3) (N := some 8) (v := ?_) (a' := ?_) #[true, true, true, true, false, false, false, false, false, false, false, false, false] rfl rfl (by kernel_rfl) (fun _ _ _ h => h) (Or.inl ⟨by rfl, ?_⟩) ?_ ?_
  rotate_left
  · intro w'
    go_simp
    try with_reducible rfl
  rotate_left
  · simp only [Act.put, List.setIfInBounds_toArray, List.set_cons_zero, List.set_cons_succ, i64_w, i32_w]
    rfl
  refine take_ (i := 4) (N := some 9) (v := ?_) (a' := ?_) #[true, true, true, true, true, false, false, false, false, false, false, false, false] rfl rfl (by kernel_rfl) (fun _ _ _ h => h) (Or.inl ⟨by rfl, ?_⟩) hHeld ?_ ?_
  rotate_left
  · rintro w' ⟨s0, s1⟩
    go_simp
    try with_reducible rfl
  rotate_left
  · simp only [Act.put, List.setIfInBounds_toArray, List.set_cons_zero, List.set_cons_succ, i64_w, i32_w]
    rfl
  refine pure_ (i := 5) (N := some 10) (v := ?_) (a' := ?_) #[true, true, true, true, true, true, false, false, false, false, false, false, false] rfl rfl (by kernel_rfl) (fun _ _ _ h => h) (Or.inl ⟨by rfl, ?_⟩) ?_ ?_
  rotate_left
  · intro w'
    go_simp
    try with_reducible rfl
  rotate_left
  · simp only [Act.put, List.setIfInBounds_toArray, List.set_cons_zero, List.set_cons_succ, i64_w, i32_w]
    rfl
  refine pure_ (i := 6) (N := some 11) (v := ?_) (a' := ?_) #[true, true, true, true, true, true, true, false, false, false, false, false, false] rfl rfl (by kernel_rfl) (fun _ _ _ h => h) (Or.inl ⟨by rfl, ?_⟩) ?_ ?_
  rotate_left
  · intro w'
    go_simp
    try with_reducible rfl
  rotate_left
  · simp only [Act.put, List.setIfInBounds_toArray, List.set_cons_zero, List.set_cons_succ, i64_w, i32_w]
    rfl
  refine pure_ (i := 7) (N := some 12) (v := ?_) (a' := ?_) #[true, true, true, true, true, true, true, true, false, false, false, false, false] rfl rfl (by kernel_rfl) (fun _ _ _ h => h) (Or.inl ⟨by rfl, ?_⟩) ?_ ?_
  rotate_left
  · intro w'
    go_simp
    try with_reducible rfl
  rotate_left
  · simp only [Act.put, List.setIfInBounds_toArray, List.set_cons_zero, List.set_cons_succ, i64_w, i32_w]
    rfl
  refine take_ (i := 8) (N := some 13) (v := ?_) (a' := ?_) #[true, true, true, true, true, true, true, true, true, false, false, false, false] rfl rfl (by kernel_rfl) (fun _ _ _ h => h) (Or.inl ⟨by rfl, ?_⟩) hHeld ?_ ?_
  rotate_left
  · rintro w' ⟨s0, s1⟩
    go_simp
    try with_reducible rfl
  rotate_left
  · simp only [Act.put, List.setIfInBounds_toArray, List.set_cons_zero, List.set_cons_succ, i64_w, i32_w]
    rfl
  refine pure_ (i := 9) (N := some 14) (v := ?_) (a' := ?_) #[true, true, true, true, true, true, true, true, true, true, false, false, false] rfl rfl (by kernel_rfl) (fun _ _ _ h => h) (Or.inl ⟨by rfl, ?_⟩) ?_ ?_
  rotate_left
  · intro w'
    go_simp
    try with_reducible rfl
  rotate_left
  · simp only [Act.put, List.setIfInBounds_toArray, List.set_cons_zero, List.set_cons_succ, i64_w, i32_w]
    rfl
  refine pure_ (i := 10) (N := some 15) (v := ?_) (a' := ?_) #[true, true, true, true, true, true, true, true, true, true, true, false, false] rfl rfl (by kernel_rfl) (fun _ _ _ h => h) (Or.inl ⟨by rfl, ?_⟩) ?_ ?_
  rotate_left
  · intro w'
    go_simp
    try with_reducible rfl
  rotate_left
  · simp only [Act.put, List.setIfInBounds_toArray, List.set_cons_zero, List.set_cons_succ, i64_w, i32_w]
    rfl
  refine pure_ (i := 11) (N := some 16) (v := ?_) (a' := ?_) #[true, true, true, true, true, true, true, true, true, true, true, true, false] rfl rfl (by kernel_rfl) (fun _ _ _ h => h) (Or.inl ⟨by rfl, ?_⟩) ?_ ?_
  rotate_left
  · intro w'
    go_simp
    try with_reducible rfl
  rotate_left
  · simp only [Act.put, List.setIfInBounds_toArray, List.set_cons_zero, List.set_cons_succ, i64_w, i32_w]
    rfl
  refine last_ (i := 12) (N := none) #[true, true, true, true, true, true, true, true, true, true, true, true, true] rfl rfl (by kernel_rfl) (by decide) (fun K hK => ?_)
  rw [if_pos (by rfl)]
  go_simp
  refine hK.out _ _ ?_
  clear hK K
  refine done_ (by kernel_rfl) ?_
  go_wp2_with fail
  go_end0
  refine ⟨rfl, .slice P f.f2.toNat kT, _, ((((Mv.refl g w (.slice P s.T.length kT) (.slice (some ⟨gf, 0, none⟩) s.F.length cap)).drewN _).set 11 (.slice P f.f2.toNat kT)).setF (gf := gf) rfl (j * 5 + 4) (.bool true)).same_T (by cases P <;> rfl), ?_⟩
  have h2 := fun n => stk_types (w1 := w.drewN n) (v1 := .slice P f.f2.toNat kT) (s := s) (by exact HG.out) HFX.out hb hDg (Kd.R_take (m := f.f2.toNat) (Kd.R_drewN HT.out n) hh |> fun q => by cases P <;> exact q) (Kd.R_mono (Kd.R_drewN HF.out n) (fun k hk => ⟨hk.1, by cases P <;> exact hk.2⟩)) HFD.out HD.out
  have hq := HJ.out
  have hz := HZ.out
  subst hz
  exact stk_dead (h2 _) (j := j) (by omega) rfl
end Go.Proofs.YthehihjcpiadgaaGreat
end
section
namespace Go.Proofs.YthehihjcpiadgaaGreat
open Go.RowKit Go.Proofs.YthehihjcpiadgaaGreatW.PrintWords Go.Shelf
set_option linter.unusedSimpArgs false
set_option linter.unusedVariables false
attribute [local go_sem] Oper.semAt_some
namespace Bk
set_option maxRecDepth 100000 in
set_option maxHeartbeats 1000000 in
theorem back1_nil_in (F : Fence) (n : Nat) (h7 : F.fn 220) (hro : F.round = none) (l Bs : Nat) (J : List (Int × Int) → World → Prop) (W : World) (c0 : Nat) (hBs : W.cell? ⟨Bs, 0, none⟩ = some (.slice none 0 c0)) (h0 : J [] W) :
    CallsIn F n Tryz.prog 220 #[.func (.yield l) #[] #[], .pointer (some ⟨Bs, 0, none⟩)] W fun e W' => (∃ v, e = .returned v) ∧ J [] W' := by
  refine callsIn_of_wp Tryz.func220 rfl h7 ?_ hro
  simp only [Tryz.ntmps220, List.size_toArray, List.length_cons, List.length_nil, Nat.reduceAdd, Nat.reduceSub, Array.replicate_succ, Array.replicate_zero, List.push_toArray, List.append_toArray, List.nil_append, List.cons_append]
  gi_wp2
  gi_loopw [3] (fun i wr => i = .int .i64 (-1) ∧ J [] wr) (fun _ _ => 0)
  case atStart => exact ⟨rfl, h0⟩
  case round =>
    obtain ⟨rfl, hJs⟩ := hrel
    gi_wp2
    go_end0
    exact ⟨⟨_, rfl⟩, hJs⟩
set_option maxHeartbeats 1000000 in
theorem back_in (F : Fence) (n : Nat) (h5 : F.fn 195) (hro : F.round = none) (a : Option Addr) (len cap : Nat) (w : World) :
    CallsIn F n Tryz.prog 195 #[.slice a len cap] w fun e w' => e = .returned (.func (.func 220) #[] #[.pointer (some ⟨w.heap.size, 0, none⟩)]) ∧ w' = w.alloc (.cells #[.slice a len cap] 23) := by
  refine callsIn_of_wp Tryz.func195 rfl h5 ?_ hro
  simp only [Tryz.ntmps195, List.size_toArray, List.length_cons, List.length_nil, Nat.reduceAdd, Nat.reduceSub, Array.replicate_succ, Array.replicate_zero, List.push_toArray, List.append_toArray, List.nil_append, List.cons_append]
  gi_wp2
  go_ret
  exact ⟨rfl, rfl⟩
/-- The slice value sv holds the numbers zs, in block b; or it is nil and there are none. -/
def Holds (W : World) (b : Nat) (sv : Value) (zs : List Int) : Prop :=
  ((∃ c, sv = .slice none 0 c) ∧ zs = []) ∨ ∃ off cap, sv = .slice (some ⟨b, off, none⟩) zs.length cap ∧ ∀ j, j < zs.length → W.cell? ⟨b, off + j, none⟩ = some (.int .i64 (zs[j]?.getD 0))
theorem back_stops (F : Fence) (n : Nat) (h8 : F.fn 220) (hro : F.round = none) (hn : 1 ≤ n) (Bs b : Nat) (sv : Value) (zs : List Int) (hreach : zs.length ≤ 1000000) (w : World) (hBs : Bs < w.heap.size) (hb : b < w.heap.size)
    (hc : w.cell? ⟨Bs, 0, none⟩ = some sv) (hI : Holds w b sv zs) :
    SeqStopsK F n Tryz.prog 220 #[.pointer (some ⟨Bs, 0, none⟩)] (fun x : Int × Int => #[Value.int .i64 x.1, Value.int .i64 x.2]) (Keep2 b Bs) (fun ys => ys = upto (at_ zs) zs.length)
      (fun pre => ∃ k, k ≤ zs.length ∧ pre = upto (at_ zs) k) zs.length w := fun l J Jx W hW _ _ hY h0 => by
  have hc' := (hW.cell (p := ⟨Bs, 0, none⟩) hBs).trans hc
  rcases hI with ⟨⟨c, rfl⟩, rfl⟩ | ⟨off, cap, rfl, hcs⟩
  · exact (back1_nil_in F n h8 hro l Bs J W c hc' h0).mono fun e W' ⟨he, hj⟩ => ⟨he, .inl ⟨_, rfl, hj⟩⟩
  · exact back1_in F n h8 hro hn l Bs b off cap zs hreach J Jx hY W hc' (fun j hj => (hW.cell (p := ⟨b, off + j, none⟩) hb).trans (hcs j hj)) h0
end Bk
/-- The state behind what has come. -/
def popped (s : Sp.St) (pre : List (Int × Int)) : Sp.St := pre.foldl (fun s x => s.pop1 x.2) s
theorem popped_snoc (s : Sp.St) (pre : List (Int × Int)) (x : Int × Int) : popped s (pre ++ [x]) = (popped s pre).pop1 x.2 := by simp [popped]
theorem popped_take (s : Sp.St) (zs : List Int) : ∀ k, k ≤ zs.length → popped s (Bk.upto (Bk.at_ zs) k) = s.pop (zs.drop (zs.length - k))
  | 0, _ => by simp [Bk.upto, popped, Sp.St.pop]
  | k + 1, h => by
    rw [Bk.upto_succ, popped_snoc, popped_take s zs k (by omega)]
    have e : zs.length - k = (zs.length - (k + 1)) + 1 := by omega
    have hlt : zs.length - (k + 1) < zs.length := by omega
    rw [List.drop_eq_getElem_cons hlt]
    have e2 : zs.length - 1 - k = zs.length - (k + 1) := by omega
    rw [show zs.length - (k + 1) + 1 = zs.length - k from by omega]
    simp only [Sp.St.pop, List.foldr_cons, Bk.at_, e2, List.getElem?_eq_getElem hlt, Option.getD_some]
theorem popped_all (s : Sp.St) (zs : List Int) : popped s (Bk.upto (Bk.at_ zs) zs.length) = s.pop zs := by
  rw [popped_take s zs zs.length (Nat.le_refl _), Nat.sub_self, List.drop_zero]
namespace Sp
theorem sinv_any {s : St} (h : SInv s) : SInv s.any.2 := by
  obtain ⟨h1, h2, h3, h4, h5⟩ := h
  unfold St.any
  by_cases hle : (s.T.length : Int) ≤ s.top.f2
  · rw [if_pos hle]; exact ⟨h1, h2, h3, h4, h5⟩
  · rw [if_neg hle]
    refine ⟨h1, h2, by simp; omega, fun i i0 i1 => ⟨(h4 i i0 i1).1, ?_⟩, h5⟩
    have := h5 i ((s.F.length : Int) - 1) i0 (by dsimp only at i1; omega) (by omega)
    have ht : s.top.f2 = (rd_TFr s.F ((s.F.length : Int) - 1)).f2 := rfl
    simp only [List.length_take]
    omega
theorem sinv_bad {s : St} (h : SInv s) (b : Bool) : SInv ⟨s.T, s.F, b⟩ := h
theorem sinv_pop1 {s : St} (h : SInv s) (x : Int) : SInv (s.pop1 x) := by
  unfold St.pop1
  split
  · exact sinv_bad (sinv_any h) true
  · exact sinv_any h
theorem sinv_pop {s : St} (h : SInv s) (l : List Int) : SInv (s.pop l) := by
  unfold St.pop
  induction l with
  | nil => exact h
  | cons a l ih => rw [List.foldr_cons]; exact sinv_pop1 ih a
end Sp
theorem sinv_popped {s : Sp.St} (h : Sp.SInv s) : ∀ pre, Sp.SInv (popped s pre) := by
  intro pre
  unfold popped
  induction pre generalizing s with
  | nil => exact h
  | cons a l ih => exact ih (Sp.sinv_pop1 h a.2)
/-- What is no cells has turned. -/
theorem kd_other {α : Type} {d : Kd α} {e : Nat} {W W' : World} {base : Nat} {ok : Nat → Prop} {v : Value} {xs : List α} (h : d.R e W base ok v xs) {row : Option Nat} (hg : W.grownBy W' row) (hr : ∀ r, row = some r → ∃ o : Obj, W.heap[r]? = some o ∧ o.isCells = false) : d.R e W' base ok v xs := by
  refine Kd.R_mono (Kd.R_move (Kd.R_bound h) (fun k hk => ?_)) (fun k hk => hk.1)
  obtain ⟨_, _, hlt, q, _, cells, hc⟩ := hk
  refine hg.block k hlt (fun e => ?_)
  obtain ⟨o, ho, hn⟩ := hr k e.symm
  rw [hc] at ho
  cases ho
  cases hn
theorem stk_other {W W' : World} {base g : Nat} {D : Nat → Prop} {fx : List Value} {s : Sp.St} {vT vF : Value} (h : StkAt W base g D fx s vT vF) {row : Option Nat} (hg : W.grownBy W' row) (hr : ∀ r, row = some r → ∃ o : Obj, W.heap[r]? = some o ∧ o.isCells = false) : StkAt W' base g D fx s vT vF := by
  obtain ⟨hg0, hfx, hb, hDg, hT, hF, hFD, hD⟩ := h
  refine ⟨(hg.block g (blk_lt hg0) (fun e => ?_)).trans hg0, hfx, hb, hDg, kd_other hT hg hr, kd_other hF hg hr, hFD, fun k hk => Nat.lt_of_lt_of_le (hD k hk) hg.size⟩
  obtain ⟨o, ho, hn⟩ := hr g e.symm
  rw [hg0] at ho
  cases ho
  cases hn
theorem stk_keepsFrom {W W' : World} {base g B : Nat} {D : Nat → Prop} {fx : List Value} {s : Sp.St} {vT vF vT' vF' : Value} (h : StkAt W base g D fx s vT vF) (m : Mv g W W' vT vF vT' vF') : KeepsFrom B W W' := by
  obtain ⟨hg0, hfx, hb, hDg, hT, hF, hFD, hD⟩ := h
  refine ⟨m.size, fun k o _ hk ho => ?_⟩
  have hlt : k < W.heap.size := (Array.getElem?_eq_some_iff.1 hk).1
  refine (m.block k hlt (fun e => ?_) (fun e => ?_) (fun e => ?_)).trans hk
  · subst e; rw [hg0] at hk; cases hk; cases ho
  · obtain ⟨cells, hc⟩ := Kd.R_typed hT k e.symm; rw [hc] at hk; cases hk; cases ho
  · obtain ⟨cells, hc⟩ := Kd.R_typed hF k e.symm; rw [hc] at hk; cases hk; cases ho
theorem keep2_t {b c : Nat} {A B C : World} (h : Bk.Keep2 b c A B) (k : Bk.Keep2 b c B C) : Bk.Keep2 b c A C := h.trans k
theorem keep2_b {w : World} {b c : Nat} (hb : b < w.heap.size) (hc : c < w.heap.size) (W : World) (l : Nat) (o o' : Obj) (hl : w.heap.size ≤ l) (_ : W.heap[l]? = some o) (_ : o.isCells = false) (_ : o.isWalk = false) : Bk.Keep2 b c W (W.putObj l o') :=
  ⟨World.putObj_heap_other (by omega), World.putObj_heap_other (by omega)⟩
theorem Mv.of_below {g : Nat} {a b : World} {t f : Value} (h : Below a.heap.size a b) : Mv g a b t f t f := ⟨h.os, h.tape, h.output, h.size, fun k hk _ _ _ => h.block k hk, fun _ h => .inl h, fun _ h => .inl h⟩
theorem Mv.other {g : Nat} {a b c : World} {t f t1 f1 : Value} (h : Mv g a b t f t1 f1) {row : Option Nat} (hg : b.grownBy c row) (hr : ∀ r, row = some r → a.heap.size ≤ r) : Mv g a c t f t1 f1 :=
  ⟨hg.os.trans h.os, hg.tape.trans h.tape, hg.output.trans h.output, Nat.le_trans h.size hg.size, fun k h1 h2 h3 h4 => (hg.block k (Nat.lt_of_lt_of_le h1 h.size) (fun e => by have := hr k e.symm; omega)).trans (h.block k h1 h2 h3 h4), h.atT, h.atF⟩
theorem keepsFrom_set {B : Nat} {W W2 : World} {p : Addr} {v : Value} (h : KeepsFrom B W W2) : KeepsFrom B W (W2.setCell p v) :=
  ⟨Nat.le_trans h.size (KeepsOthers.setCell W2 p v).size, fun k o hk h1 h2 => (KeepsOthers.setCell W2 p v).same k o (h.same k o hk h1 h2) h2⟩
/-- What lies between two rounds. -/
def PopI (w : World) (base g b : Nat) (D : Nat → Prop) (fx : List Value) (s : Sp.St) (vT vF : Value) (pre : List (Int × Int)) (W : World) : Prop :=
  ∃ vT' vF', Mv g w W vT vF vT' vF' ∧ StkAt W base g D fx (popped s pre) vT' vF' ∧ W.cell? ⟨w.heap.size, 0, none⟩ = some (.pointer (some ⟨g, 0, none⟩)) ∧ W.heap[w.heap.size]? = some (.cells #[.pointer (some ⟨g, 0, none⟩)] 104 (0, 0)) ∧ w.heap.size + 2 ≤ W.heap.size ∧ ∀ k, k = b ∨ k = w.heap.size ∨ k = w.heap.size + 1 → k ≠ g ∧ some k ≠ vT'.ownBlock ∧ some k ≠ vF'.ownBlock
theorem popI_own {w : World} {base g b B : Nat} {D : Nat → Prop} {fx : List Value} {s : Sp.St} {vT vF : Value} (hB : w.heap.size ≤ B) : OwnFrom B (PopI w base g b D fx s vT vF) := by
  rintro pre W W' row ⟨vT', vF', m, h, c, hh, hs, hk⟩ hg hr
  have hne : ∀ r, row = some r → ∃ o : Obj, W.heap[r]? = some o ∧ o.isCells = false := fun r e => (hr r e).2
  have hbx : W'.heap[w.heap.size]? = W.heap[w.heap.size]? := hg.block _ (by omega) (fun e => by
    obtain ⟨o, ho, hn⟩ := hne _ e.symm
    rw [hh] at ho; cases ho; cases hn)
  refine ⟨vT', vF', ⟨hg.os.trans m.os, hg.tape.trans m.tape, hg.output.trans m.output, Nat.le_trans m.size hg.size, fun k hk1 hk2 hk3 hk4 => (hg.block k (Nat.lt_of_lt_of_le hk1 m.size) (fun e => by have := (hr k e.symm).1; omega)).trans (m.block k hk1 hk2 hk3 hk4), m.atT, m.atF⟩, stk_other h hg hne, ?_, hbx.trans hh, Nat.le_trans hs hg.size, hk⟩
  rw [← c]
  simp [World.cell?, hbx]
set_option maxRecDepth 100000 in
set_option maxHeartbeats 8000000 in
theorem stacks_pop (w : World) (base g : Nat) (D : Nat → Prop) (fx : List Value) (s : Sp.St) (vT vF : Value) (h : StkAt w base g D fx s vT vF) (hI : Sp.SInv s) (A : Option Addr) (cA b : Nat) (l : List Int) (hH : Bk.Holds w b (.slice A l.length cA) l) (hb : b ≤ w.heap.size) (hbg : b ≠ g) (hbT : some b ≠ vT.ownBlock) (hbF : some b ≠ vF.ownBlock) (hl : l.length ≤ 1000000) :
    Calls Tryz.prog 145 #[.pointer (some ⟨g, 0, none⟩), .slice A l.length cA] w (StkEnd g base D fx w vT vF (.tuple #[]) (s.pop l)) := by
  refine (callsIn_wide (n := 4)).1 ?_
  have glt := blk_lt h.1
  have hTlt := Kd.R_lt h.2.2.2.2.1
  have hFlt := Kd.R_lt h.2.2.2.2.2.1
  refine callsIn_of_wp_marks Tryz.func145 rfl trivial ?_ rfl
  simp only [Tryz.ntmps145, List.size_toArray, List.length_cons, List.length_nil, Nat.reduceAdd, Nat.reduceSub, Array.replicate_succ, Array.replicate_zero, List.push_toArray, List.append_toArray, List.nil_append, List.cons_append]
  gi_wp2_with (refine ⟨trivial, ?_⟩; gi_at_call 195; refine (Bk.back_in Fence.wide (4 - 1) trivial rfl _ _ _ _).mono ?_; rintro e w' ⟨rfl, rfl⟩)
  have h0 : StkAt ((w.alloc (.cells #[.pointer (some ⟨g, 0, none⟩)] 104)).alloc (.cells #[.slice A l.length cA] 23)) base g D fx s vT vF := stk_alloc (stk_alloc h _) _
  have m0 : Mv g w ((w.alloc (.cells #[.pointer (some ⟨g, 0, none⟩)] 104)).alloc (.cells #[.slice A l.length cA] 23)) vT vF vT vF := Mv.of_below (below_alloc (below_alloc (Below.refl _ _) _) _)
  have x0 : ((w.alloc (.cells #[.pointer (some ⟨g, 0, none⟩)] 104)).alloc (.cells #[.slice A l.length cA] 23)).heap[w.heap.size]? = some (.cells #[.pointer (some ⟨g, 0, none⟩)] 104 (0, 0)) := blk_alloc (heap_alloc_new w _) _
  have x1 : ((w.alloc (.cells #[.pointer (some ⟨g, 0, none⟩)] 104)).alloc (.cells #[.slice A l.length cA] 23)).cell? ⟨w.heap.size + 1, 0, none⟩ = some (.slice A l.length cA) := by simp [go_sem]
  have x2 : ((w.alloc (.cells #[.pointer (some ⟨g, 0, none⟩)] 104)).alloc (.cells #[.slice A l.length cA] 23)).heap.size = w.heap.size + 2 := by simp
  have x3 : Bk.Holds ((w.alloc (.cells #[.pointer (some ⟨g, 0, none⟩)] 104)).alloc (.cells #[.slice A l.length cA] 23)) b (.slice A l.length cA) l := by
    rcases hH with ⟨e, e2⟩ | ⟨off, cap, e, hc⟩
    · exact .inl ⟨e, e2⟩
    · exact .inr ⟨off, cap, e, fun j hj => cell_al (cell_al (hc j hj))⟩
  generalize hW0 : (w.alloc (.cells #[.pointer (some ⟨g, 0, none⟩)] 104)).alloc (.cells #[.slice A l.length cA] 23) = W0 at h0 m0 x0 x1 x2 x3 ⊢
  have hI0 : PopI w base g b D fx s vT vF [] W0 := ⟨vT, vF, m0, h0, (blk_cell x0 0).trans rfl, x0, by omega, fun k hk => by
    rcases hk with rfl | rfl | rfl
    · exact ⟨hbg, hbT, hbF⟩
    · exact ⟨by omega, fun e => by have := hTlt _ e.symm; omega, fun e => by have := hFlt _ e.symm; omega⟩
    · exact ⟨by omega, fun e => by have := hTlt _ e.symm; omega, fun e => by have := hFlt _ e.symm; omega⟩⟩
  refine wpIn_rangeFunc_ownG rfl (by omega) (gf := 220) (lb := #[.pointer (some ⟨w.heap.size + 1, 0, none⟩)]) rfl trivial (enters_of Tryz.func220 (by kernel_rfl) rfl)
    (Bk.back_stops Fence.wide (4 - 1) trivial rfl (by omega) (w.heap.size + 1) b _ l hl W0 (by omega) (by omega) x1 x3) keep2_t (keep2_b (by omega) (by omega)) (Below.refl _ _) (fun _ => rfl)
    (PopI w base g b D fx s vT vF) (fun _ _ _ => False) (popI_own (by omega)) (fun _ _ _ _ _ hs _ _ => hs) hI0
    (fun x => { tmps := #[.pointer (some ⟨g, 0, none⟩), .slice A l.length cA, .pointer (some ⟨w.heap.size, 0, none⟩), undef, undef, .int .i64 x.2, undef, .slice A l.length cA, .func (.func 220) #[] #[.pointer (some ⟨w.heap.size + 1, 0, none⟩)], .int .i64 x.1, .int .i64 x.2, undef, undef, undef, undef, undef, undef, undef, undef, undef, undef, undef, undef], defers := [] }) ?assign ?body ?done ?stop
  case assign =>
    intro l x W K hK
    gi_wp2
    exact hK
  case body =>
    rintro lp pre x W ⟨vT1, vF1, m1, h1, c1, hh1, hs1, hk1⟩ _
    have hcall := stacks_any W base g D fx (popped s pre) vT1 vF1 h1 (sinv_popped hI pre)
    have HS := Lib.hid h1; have HM := Lib.hid m1; have HH := Lib.hid hh1; have HK := Lib.hid hk1
    have HC := Lib.hid hcall
    clear h1 m1 hh1 hk1 hcall
    gi_wp2
    refine ⟨trivial, ?_⟩
    refine (CallsIn.inRound lp (callsIn_wide.2 HC.out)).mono ?_
    rintro e W2 ⟨rfl, vT2, vF2, m2, h2⟩
    have HM2 := Lib.hid m2; have HS2 := Lib.hid h2; clear m2 h2
    have hk1 := HK.out
    have hs := HM.out.size
    have blt : b < W.heap.size := by omega
    have hcl : ∀ k, k = b ∨ k = w.heap.size ∨ k = w.heap.size + 1 → W2.heap[k]? = W.heap[k]? := fun k hk => HM2.out.block k (by rcases hk with rfl | rfl | rfl <;> omega) (hk1 k hk).1 (hk1 k hk).2.1 (hk1 k hk).2.2
    have hk2 : ∀ k, k = b ∨ k = w.heap.size ∨ k = w.heap.size + 1 → k ≠ g ∧ some k ≠ vT2.ownBlock ∧ some k ≠ vF2.ownBlock := fun k hk => by
      have hkl : k < W.heap.size := by rcases hk with rfl | rfl | rfl <;> omega
      refine ⟨(hk1 k hk).1, fun e => ?_, fun e => ?_⟩
      · rcases HM2.out.atT k e.symm with h | h
        · exact (hk1 k hk).2.1 h.symm
        · omega
      · rcases HM2.out.atF k e.symm with h | h
        · exact (hk1 k hk).2.2 h.symm
        · omega
    have hbx : W2.heap[w.heap.size]? = some (.cells #[.pointer (some ⟨g, 0, none⟩)] 104 (0, 0)) := (hcl _ (.inr (.inl rfl))).trans HH.out
    have c2 : W2.cell? ⟨w.heap.size, 0, none⟩ = some (.pointer (some ⟨g, 0, none⟩)) := (blk_cell hbx 0).trans rfl
    have hgb := HS2.out.1
    have hfx := HS2.out.2.1
    have c13 := (blk_cell hgb 13).trans (stk_13 hfx _ _ _)
    have f13 := blk_frozen hgb 13
    have hsz2 := HM2.out.size
    have hp1 : (popped s pre).pop1 x.2 = if (popped s pre).any.1 ≠ 0 ∧ (popped s pre).any.1 ≠ x.2 then ⟨(popped s pre).any.2.T, (popped s pre).any.2.F, true⟩ else (popped s pre).any.2 := rfl
    rw [← popped_snoc] at hp1
    have HP := Lib.hid hp1
    have HB := Lib.hid hbx; have HCL := Lib.hid hcl; have HK2 := Lib.hid hk2
    clear hk1 hcl hk2 hbx hgb hp1
    have END : Hid (popped s (pre ++ [x]) = (popped s pre).any.2 → PopI w base g b D fx s vT vF (pre ++ [x]) W2) := Lib.hid (fun e => ⟨vT2, vF2, HM.out.trans HM2.out, e ▸ HS2.out, c2, HB.out, by omega, HK2.out⟩)
    have END2 : Hid (popped s (pre ++ [x]) = ⟨(popped s pre).any.2.T, (popped s pre).any.2.F, true⟩ → PopI w base g b D fx s vT vF (pre ++ [x]) (W2.setCell ⟨g, 13, none⟩ (.bool true))) := Lib.hid (fun e => ⟨vT2, vF2, (HM.out.trans HM2.out).set 13 _, e ▸ stk_bad HS2.out true, by
      have := (HK2.out w.heap.size (.inr (.inl rfl))).1
      rw [World.cell?_setCell_far _ _ _ _ (by show g ≠ w.heap.size; omega)]; exact c2, blk_far HB.out (HK2.out w.heap.size (.inr (.inl rfl))).1 _, by simp only [World.setCell]; simp; omega, HK2.out⟩)
    have hbg1 := (HK2.out b (.inl rfl)).1
    have hbg2 := (HK2.out (w.heap.size + 1) (.inr (.inr rfl))).1
    obtain ⟨ty, hty⟩ : ∃ ty, ty = (popped s pre).any.1 := ⟨_, rfl⟩
    rw [← hty] at HP ⊢
    have KF := Lib.hid (stk_keepsFrom (B := W0.heap.size) HS.out HM2.out)
    by_cases h1 : ty = 0
    · have g1 : (ty != 0) = false := by simp [h1]
      have E := Lib.hid (END.out (by rw [HP.out, if_neg (fun h => h.1 h1)]))
      clear h1 hty
      gi_wp2
      exact ⟨KF.out, ⟨HCL.out b (.inl rfl), HCL.out _ (.inr (.inr rfl))⟩, E.out⟩
    · have g1 : (ty != 0) = true := by simpa using h1
      by_cases h2 : ty = x.2
      · have g2 : (ty != x.2) = false := by simpa using h2
        have E := Lib.hid (END.out (by rw [HP.out, if_neg (fun h => h.2 h2)]))
        clear h1 h2 hty
        gi_wp2
        exact ⟨KF.out, ⟨HCL.out b (.inl rfl), HCL.out _ (.inr (.inr rfl))⟩, E.out⟩
      · have g2 : (ty != x.2) = true := by simpa using h2
        have E := Lib.hid (END2.out (by rw [HP.out, if_pos ⟨h1, h2⟩]))
        clear h1 h2 hty
        gi_wp2
        exact ⟨keepsFrom_set KF.out, ⟨(Below.heap_setCell W2 ⟨g, 13, none⟩ _ b hbg1).trans (HCL.out b (.inl rfl)), (Below.heap_setCell W2 ⟨g, 13, none⟩ _ _ hbg2).trans (HCL.out _ (.inr (.inr rfl)))⟩, E.out⟩
  case done =>
    rintro Dq ys W hD rfl ⟨vT1, vF1, m1, h1, c1, hh1, hs1, hk1⟩ hK
    gi_wp2
    refine ⟨by simp, .inl ⟨_, _, rfl, run_takeDeferred hK, ?_⟩⟩
    refine ⟨_, results_none rfl _ _ _, rfl, vT1, vF1, m1.other (grownBy_putObj' W Dq _) (fun r e => by cases e; omega), ?_⟩
    rw [← popped_all s l]
    exact stk_other h1 (grownBy_putObj' W Dq _) (fun r e => by cases e; exact ⟨_, hK, rfl⟩)
  case stop =>
    rintro Dq cc pre W _ _ hf _
    exact hf.elim
end Go.Proofs.YthehihjcpiadgaaGreat
end
section
namespace Go.Proofs.YthehihjcpiadgaaGreat
open Go.RowKit Go.Proofs.YthehihjcpiadgaaGreatW.PrintWords Go.Shelf
set_option linter.unusedSimpArgs false
set_option linter.unusedVariables false
/-- A row of types that is none of the stacks' own. -/
def ArgRow (w : World) (g : Nat) (vT vF v : Value) (xs : List Int) : Prop :=
  ∃ A c b, v = .slice A xs.length c ∧ Bk.Holds w b v xs ∧ (b < w.heap.size ∨ A = none) ∧ b ≤ w.heap.size ∧ b ≠ g ∧ some b ≠ vT.ownBlock ∧ some b ≠ vF.ownBlock
theorem rd_getD (xs : List Int) (j : Nat) (hj : j < xs.length) : rd xs (j : Int) = xs[j]?.getD 0 := by
  simp [rd, List.getD_eq_getElem?_getD]
theorem arg_of_R {w : World} {base g : Nat} {ok : Nat → Prop} {vT vF v : Value} {xs : List Int} (h : TypesR w base ok v xs) (hok : ∀ k, ok k → k ≠ g ∧ some k ≠ vT.ownBlock ∧ some k ≠ vF.ownBlock) (hg : g < w.heap.size) (hT : ∀ k, vT.ownBlock = some k → k < w.heap.size) (hF : ∀ k, vF.ownBlock = some k → k < w.heap.size) : ArgRow w g vT vF v xs := by
  rcases Nat.eq_zero_or_pos xs.length with h0 | hp
  · obtain rfl := List.eq_nil_of_length_eq_zero h0
    obtain ⟨A, c, rfl⟩ := Kd.R_slice h
    refine ⟨A, c, ?_⟩
    cases A with
    | none => exact ⟨w.heap.size, rfl, .inl ⟨⟨c, rfl⟩, rfl⟩, .inr rfl, Nat.le_refl _, by omega, fun e => by have := hT _ e.symm; omega, fun e => by have := hF _ e.symm; omega⟩
    | some ad =>
      obtain ⟨inner, hown⟩ := Kd.R_own h
      rcases hown.2 with ⟨hn, _⟩ | ⟨gb, cap, cur, he, hb, hh, _⟩
      · cases hn
      · injection he with he1 _ _
        injection he1 with he1
        subst he1
        have hq := h.1 gb (by simp [Value.ownBlock])
        obtain ⟨h1, h2, h3⟩ := hok gb hq
        exact ⟨gb, rfl, .inr ⟨0, c, rfl, fun j hj => absurd hj (by simp)⟩, .inl (blk_lt hh), by have := blk_lt hh; omega, h1, h2, h3⟩
  · obtain ⟨gb, cap, rfl, hb, hlt, -⟩ := Kd.R_form h hp
    obtain ⟨h1, h2, h3⟩ := hok gb (h.1 gb (by simp [Value.ownBlock]))
    refine ⟨_, cap, gb, rfl, .inr ⟨0, cap, rfl, fun j hj => ?_⟩, .inl hlt, by omega, h1, h2, h3⟩
    have hc := (Kd.R_cell (0 : Int) h (j : Int) (by omega) (by omega)).1
    rw [Int.toNat_natCast] at hc
    rw [Nat.zero_add]
    refine hc.trans ?_
    rw [← rd_getD xs j hj]
    rfl
/-- A row that was just made. -/
theorem arg_new {w : World} {g n : Nat} {vT vF : Value} {xs : List Int} {t : TypeId} (hn : w.heap[n]? = some (.cells (encs (Value.int .i64) xs).toArray t (0, 0))) (hg : n ≠ g) (hT : some n ≠ vT.ownBlock) (hF : some n ≠ vF.ownBlock) : ArgRow w g vT vF (.slice (some ⟨n, 0, none⟩) xs.length xs.length) xs := by
  refine ⟨_, _, n, rfl, .inr ⟨0, xs.length, rfl, fun j hj => ?_⟩, .inl (blk_lt hn), by have := blk_lt hn; omega, hg, hT, hF⟩
  rw [Nat.zero_add, blk_cell hn j]
  simp [encs, hj]
/-- What is held is read. -/
theorem arg_read {w : World} {g : Nat} {vT vF v : Value} {xs : List Int} (h : ArgRow w g vT vF v xs) (hl : xs.length ≤ 1000000) : ∃ A c, v = .slice A xs.length c ∧ IntsC w A xs := by
  obtain ⟨A, c, b, rfl, hH, -⟩ := h
  rcases hH with ⟨⟨c1, e⟩, rfl⟩ | ⟨off, cap, e, hc⟩
  · injection e with e1 e2 e3
    subst e1
    exact ⟨none, c, rfl, Kd.C_nil _ _⟩
  · injection e with e1 e2 e3
    subst e1
    refine ⟨_, c, rfl, Kd.C_of_reads (h1 := fun _ => rfl) (d := (0 : Int)) (enc := Value.int .i64) ⟨rfl, by omega, fun _ => ⟨_, rfl, fun j hj => ?_⟩⟩⟩
    have := hc j hj
    simp only [Addr.add] 
    split
    · rename_i h0; subst h0; simpa [List.getD_eq_getElem?_getD] using this
    · simpa [List.getD_eq_getElem?_getD] using this
theorem stacks_popA (w : World) (base g : Nat) (D : Nat → Prop) (fx : List Value) (s : Sp.St) (vT vF v : Value) (h : StkAt w base g D fx s vT vF) (hI : Sp.SInv s) (l : List Int) (hA : ArgRow w g vT vF v l) (hl : l.length ≤ 1000000) :
    Calls Tryz.prog 145 #[.pointer (some ⟨g, 0, none⟩), v] w (StkEnd g base D fx w vT vF (.tuple #[]) (s.pop l)) := by
  obtain ⟨A, c, b, rfl, hH, hbl, hb, h1, h2, h3⟩ := hA
  exact stacks_pop w base g D fx s vT vF h hI A c b l hH hb h1 h2 h3 hl
theorem stacks_pushA (w : World) (base g : Nat) (D : Nat → Prop) (fx : List Value) (s : Sp.St) (vT vF v : Value) (h : StkAt w base g D fx s vT vF) (l : List Int) (hA : ArgRow w g vT vF v l) (hl : s.T.length + l.length ≤ 1000000) :
    Calls Tryz.prog 146 #[.pointer (some ⟨g, 0, none⟩), v] w (StkEnd g base D fx w vT vF (.tuple #[]) (s.push l)) := by
  obtain ⟨A, c, rfl, hC⟩ := arg_read hA (by omega)
  exact stacks_push w base g D fx s vT vF h A c l hC hl
end Go.Proofs.YthehihjcpiadgaaGreat
end
section
namespace Go.Proofs.YthehihjcpiadgaaGreat
open Go.RowKit Go.Proofs.YthehihjcpiadgaaGreatW.PrintWords
namespace Sp
def St.leave (s : St) : St :=
  ⟨(s.pop s.top.f1.f1).T.take (min (s.pop s.top.f1.f1).T.length s.top.f2.toNat), (s.pop s.top.f1.f1).F, (s.pop s.top.f1.f1).bad || decide (((s.pop s.top.f1.f1).T.length : Int) > s.top.f2)⟩
def St.err (s : St) (b : Bool) : St := ⟨s.T, s.F, s.bad || b⟩
/-- The last frame is over. -/
def St.less (s : St) : St := ⟨s.T, if 1 < s.F.length then s.F.take (s.F.length - 1) else s.F, s.bad⟩
def St.end_ (s : St) : St := ((s.leave.err (decide (s.top.f0 = 4) && decide (s.top.f1.f0 ≠ s.top.f1.f1))).less).push s.top.f1.f1
def St.other (s : St) : St := St.push ⟨s.leave.T, s.leave.F.set (s.leave.F.length - 1) ⟨5, s.top.f1, s.top.f2, false⟩, s.leave.bad⟩ s.top.f1.f0
def St.open_ (s : St) (op : Int) (t : STy) : St :=
  let a := (if op = 4 then s.pop [127] else s).pop t.f0
  St.push ⟨a.T, a.F ++ [⟨op, t, a.T.length, false⟩], a.bad⟩ t.f0
def St.chosen (s : St) : St :=
  let a := (s.pop [127]).any
  let b := a.2.any
  (b.2.err (decide (a.1 ≠ 0) && decide (b.1 ≠ 0) && decide (a.1 ≠ b.1))).push [max a.1 b.1]
/-- Types that are taken are put back, and told. -/
def St.look (s : St) (l : List Int) : St × List Int :=
  l.foldr (fun want a => let b := a.1.any; (b.2.err (decide (b.1 ≠ 0) && decide (b.1 ≠ want)), a.2 ++ [b.1])) (s, [])
def St.back (s : St) (l : List Int) : St := s.push l.reverse
def St.labels (s : St) (n : Nat) : List Int → St × Bool
  | [] => (s, true)
  | k :: l => if (label (s.at k)).length ≠ n then (⟨s.T, s.F, true⟩, false) else let a := s.look (label (s.at k)); St.labels (a.1.back a.2) n l
def St.table (s : St) (l : List Int) : St :=
  let a := s.pop [127]
  if l.length = 0 then ⟨a.T, a.F, true⟩ else
  let last := label (a.at (rd l ((l.length : Int) - 1)))
  let b := a.labels last.length l
  if b.2 then (b.1.pop last).die else b.1
/-- What takes and gives by its op alone. -/
def St.plain (s : St) (op : Int) : St :=
  if accB op && decide (54 ≤ op) then s.pop [127, accT op]
  else if accB op then (s.pop [127]).push [accT op]
  else if constT op ≠ 0 then s.push [constT op]
  else if numB op then (s.pop (numP op)).push (numR op)
  else if op = 63 then s.push [127]
  else if op = 64 then (s.pop [127]).push [127]
  else if op = 64520 ∨ op = 64522 ∨ op = 64523 then s.pop [127, 127, 127]
  else s
/-- What stays: the module, the locals' types, the function's type. -/
structure Env where
  M : SMod
  L : List Int
  S : STy
def St.calls (s : St) (E : Env) (i : SInst) : St :=
  let t := (sigOf E.M i.f1).getD zTy
  let a := s.pop t.f0
  if i.f0 = 16 then a.push t.f1 else (a.err (decide (t.f1 ≠ E.S.f1))).die
def St.branches (s : St) (E : Env) (i : SInst) : St :=
  if i.f0 = 12 then (s.pop (label (s.at i.f1))).die
  else if i.f0 = 13 then ((s.pop [127]).pop (label (s.at i.f1))).push (label (s.at i.f1))
  else if i.f0 = 14 then s.table i.f4
  else (s.pop E.S.f1).die
def St.places (s : St) (E : Env) (i : SInst) : St :=
  if i.f0 = 32 then s.push [rd E.L i.f1]
  else if i.f0 = 33 then s.pop [rd E.L i.f1]
  else if i.f0 = 34 then (s.pop [rd E.L i.f1]).push [rd E.L i.f1]
  else if i.f0 = 35 then s.push [(rd_TGlob E.M.f4 i.f1).f0]
  else if i.f0 = 36 then (s.pop [(rd_TGlob E.M.f4 i.f1).f0]).err (!(rd_TGlob E.M.f4 i.f1).f1)
  else s
/-- An instruction whose indices are right. -/
def St.step (s : St) (E : Env) (i : SInst) : St :=
  if i.f0 = 0 then s.die
  else if opens i.f0 then s.open_ i.f0 ((blockOf E.M i.f1).getD zTy)
  else if i.f0 = 5 then s.other
  else if i.f0 = 11 then s.end_
  else if i.f0 = 12 ∨ i.f0 = 13 ∨ i.f0 = 14 ∨ i.f0 = 15 then s.branches E i
  else if i.f0 = 16 ∨ i.f0 = 18 then s.calls E i
  else if i.f0 = 26 then s.any.2
  else if i.f0 = 27 then s.chosen
  else if 32 ≤ i.f0 ∧ i.f0 ≤ 36 then s.places E i
  else s.plain i.f0
def there (n many : Int) : Bool := decide (0 ≤ n ∧ n < many)
/-- Is what an instruction names there? -/
def St.known (s : St) (E : Env) (i : SInst) : Bool :=
  if opens i.f0 then (blockOf E.M i.f1).isSome
  else if accB i.f0 then there i.f1 E.M.f3.length
  else if i.f0 = 12 ∨ i.f0 = 13 then there i.f1 s.F.length
  else if i.f0 = 14 then !i.f4.any (fun n => !there n s.F.length)
  else if i.f0 = 16 ∨ i.f0 = 18 then (sigOf E.M i.f1).isSome
  else if 32 ≤ i.f0 ∧ i.f0 ≤ 34 then there i.f1 E.L.length
  else if i.f0 = 35 ∨ i.f0 = 36 then there i.f1 E.M.f4.length
  else if i.f0 = 63 ∨ i.f0 = 64 ∨ i.f0 = 64523 then there i.f1 E.M.f3.length
  else if i.f0 = 64520 then there i.f1 E.M.f3.length && there i.f2 E.M.f6.length
  else if i.f0 = 64521 then there i.f1 E.M.f6.length
  else if i.f0 = 64522 then there i.f1 E.M.f3.length && there i.f2 E.M.f3.length
  else true
/-- Is an instruction one of rich modules? -/
def instRich (i : SInst) : Bool := rich i.f0 || (opens i.f0 && decide (0 ≤ i.f1))
/-- What an instruction may not be, if it may not. -/
def St.whyNot (s : St) (E : Env) (plain : Bool) (i : SInst) : Int :=
  if plain && instRich i then 24 else if !s.known E i then 23 else if (s.step E i).bad then 14 else 0
end Sp
end Go.Proofs.YthehihjcpiadgaaGreat
end
