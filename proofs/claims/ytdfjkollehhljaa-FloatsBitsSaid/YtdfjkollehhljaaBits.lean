/- The walk of FloatsBits. -/
import Derived.Test.YtdfjkollehhljaaBitsFacts
namespace Go.Proofs.Ytdfjkollehhljaa
open Go.RowKit Ieee

theorem grown_cell {W w : World} (h : Grown W w) {g i : Nat} {v : Value} (hc : W.cell? ⟨g, i, none⟩ = some v) : w.cell? ⟨g, i, none⟩ = some v := by
  have hlt : g < W.heap.size := by
    rcases Nat.lt_or_ge g W.heap.size with h | h
    · exact h
    · have : W.heap[g]? = none := by simp [h]
      simp [World.cell?, this] at hc
  rw [← hc]
  exact World.keptBut.cell h.1 hlt (fun f => f)

set_option maxRecDepth 100000 in
set_option maxHeartbeats 4000000 in
theorem bits_core (a n A N F H : Int) (n0 : 0 ≤ n) (n1 : n < 4294967296) (hA : bits .and .u64 a 9223372036854775807 = A) (hN : bits .xor .u64 a 9223372036854775808 = N) (c1 : ∀ w, Calls Try.prog 7 #[.int .i64 153, .int .u64 a, .int .u64 0] w (fun e w' => e = .returned (.tuple #[.int .u64 A, .int .i64 0]) ∧ w = w')) (c2 : ∀ w, Calls Try.prog 7 #[.int .i64 154, .int .u64 a, .int .u64 0] w (fun e w' => e = .returned (.tuple #[.int .u64 N, .int .i64 0]) ∧ w = w')) (c3 : ∀ w, Calls Try.prog 7 #[.int .i64 154, .int .u64 N, .int .u64 0] w (fun e w' => e = .returned (.tuple #[.int .u64 a, .int .i64 0]) ∧ w = w')) (c4 : ∀ w, Calls Try.prog 7 #[.int .i64 166, .int .u64 A, .int .u64 a] w (fun e w' => e = .returned (.tuple #[.int .u64 a, .int .i64 0]) ∧ w = w')) (c5 : ∀ w, Calls Try.prog 7 #[.int .i64 184, .int .u64 n, .int .u64 0] w (fun e w' => e = .returned (.tuple #[.int .u64 F, .int .i64 0]) ∧ w = w')) (c6 : ∀ w, Calls Try.prog 7 #[.int .i64 171, .int .u64 F, .int .u64 0] w (CutEnd n 0 w)) (c7 : ∀ w, Calls Try.prog 7 #[.int .i64 183, .int .u64 n, .int .u64 0] w (fun e w' => e = .returned (.tuple #[.int .u64 H, .int .i64 0]) ∧ w = w')) (c8 : ∀ w, Calls Try.prog 7 #[.int .i64 170, .int .u64 H, .int .u64 0] w (CutEnd n 0 w)) (P0 : PairDo 170 64514 a) (P1 : PairDo 171 64515 a) (P2 : PairDo 176 64518 a) (P3 : PairDo 177 64519 a) (w : World) : Calls Try.prog 4 #[.int .u64 a, .int .u32 n] w fun e w' => e = .returned (.bool true) ∧ Grown w w' := by
  have H1 := Lib.hid c1; clear c1
  have H2 := Lib.hid c2; clear c2
  have H3 := Lib.hid c3; clear c3
  have H4 := Lib.hid c4; clear c4
  have H5 := Lib.hid c5; clear c5
  have H6 := Lib.hid c6; clear c6
  have H7 := Lib.hid c7; clear c7
  have H8 := Lib.hid c8; clear c8
  have Q0 := Lib.hid P0; clear P0
  have Q1 := Lib.hid P1; clear P1
  have Q2 := Lib.hid P2; clear P2
  have Q3 := Lib.hid P3; clear P3
  go_enter Try.func4, Try.ntmps4
  go_wp2_with fail
  refine (H1.out _).mono ?_
  rintro e w' ⟨rfl, rfl⟩
  go_wp2_with fail
  refine (H2.out _).mono ?_
  rintro e w' ⟨rfl, rfl⟩
  go_wp2_with fail
  refine (H3.out _).mono ?_
  rintro e w' ⟨rfl, rfl⟩
  go_wp2_with fail
  refine (H4.out _).mono ?_
  rintro e w' ⟨rfl, rfl⟩
  go_wp2_with fail
  refine (H5.out _).mono ?_
  rintro e w' ⟨rfl, rfl⟩
  go_wp2_with fail
  refine (H6.out _).mono ?_
  rintro e w1 ⟨rfl, hg1⟩
  have G1 := Lib.hid hg1; clear hg1
  go_wp2_with fail
  refine (H7.out _).mono ?_
  rintro e w' ⟨rfl, rfl⟩
  go_wp2_with fail
  refine (H8.out _).mono ?_
  rintro e w2 ⟨rfl, hg2⟩
  have G2 := Lib.hid hg2; clear hg2
  go_wp2_with fail
  have Hn1 := Lib.hid (fun w => naN_any a w)
  go_loopw [110] (fun i wr => ∃ k : Nat, k ≤ 4 ∧ i = .int .i64 k ∧ Grown (w2.alloc (.cells #[.int .i64 170, .int .i64 171, .int .i64 176, .int .i64 177] 3)) wr) (fun i _ => 4 - (intOf i).toNat)
  case atStart => exact ⟨0, by omega, rfl, Grown.refl _⟩
  case round =>
    obtain ⟨k, hk, rfl, hgr⟩ := hrel
    have f0 : wr.cell? ⟨w2.heap.size, 0, none⟩ = some (.int .i64 170) := grown_cell hgr (by simp [go_sem])
    have f1 : wr.cell? ⟨w2.heap.size, 1, none⟩ = some (.int .i64 171) := grown_cell hgr (by simp [go_sem])
    have f2 : wr.cell? ⟨w2.heap.size, 2, none⟩ = some (.int .i64 176) := grown_cell hgr (by simp [go_sem])
    have f3 : wr.cell? ⟨w2.heap.size, 3, none⟩ = some (.int .i64 177) := grown_cell hgr (by simp [go_sem])
    have Hgr := Lib.hid hgr; clear hgr
    rcases (show k = 0 ∨ k = 1 ∨ k = 2 ∨ k = 3 ∨ k = 4 from by omega) with rfl | rfl | rfl | rfl | rfl
    · clear f1 f2 f3
      rcases Q0.out with ⟨v, d1, d2⟩ | ⟨v, d1, d2⟩ | ⟨hn, d1, d2⟩
      · have D1 := Lib.hid d1; clear d1
        have D2 := Lib.hid d2; clear d2
        go_wp2_with fail
        refine (D1.out _).mono ?_
        rintro e w3 ⟨rfl, hg3⟩
        have G3 := Lib.hid hg3; clear hg3
        go_wp2_with fail
        refine (D2.out _).mono ?_
        rintro e w4 ⟨rfl, hg4⟩
        have G4 := Lib.hid hg4; clear hg4
        go_wp2_with fail
        go_roundw
        case rel => exact ⟨1, by omega, by first | rfl | simp, grown_trans (grown_trans Hgr.out G3.out) (grown_trans (Grown.alloc (Grown.refl _) _ _) G4.out)⟩
        case measure => simp [intOf]
      · have D1 := Lib.hid d1; clear d1
        have D2 := Lib.hid d2; clear d2
        go_wp2_with fail
        refine (D1.out _).mono ?_
        rintro e w3 ⟨rfl, hg3⟩
        have G3 := Lib.hid hg3; clear hg3
        go_wp2_with fail
        refine (D2.out _).mono ?_
        rintro e w4 ⟨rfl, hg4⟩
        have G4 := Lib.hid hg4; clear hg4
        go_wp2_with fail
        go_roundw
        case rel => exact ⟨1, by omega, by first | rfl | simp, grown_trans (grown_trans Hgr.out G3.out) (grown_trans (Grown.alloc (Grown.refl _) _ _) G4.out)⟩
        case measure => simp [intOf]
      · have D1 := Lib.hid d1; clear d1
        have D2 := Lib.hid d2; clear d2
        have Hn2 : Hid (∀ w, Calls Try.prog 8 #[.int .u64 a] w (fun e w' => e = .returned (.bool true) ∧ w = w')) := Lib.hid fun w => by have := naN_any a w; rwa [hn] at this
        clear hn
        go_wp2_with fail
        refine (D1.out _).mono ?_
        rintro e w3 ⟨rfl, hg3⟩
        have G3 := Lib.hid hg3; clear hg3
        go_wp2_with fail
        refine (D2.out _).mono ?_
        rintro e w4 ⟨rfl, hg4⟩
        have G4 := Lib.hid hg4; clear hg4
        go_wp2_with fail
        refine (Hn2.out _).mono ?_
        rintro e w' ⟨rfl, rfl⟩
        go_wp2_with fail
        go_roundw
        case rel => exact ⟨1, by omega, by first | rfl | simp, grown_trans (grown_trans Hgr.out G3.out) (grown_trans (Grown.alloc (Grown.refl _) _ _) G4.out)⟩
        case measure => simp [intOf]
    · clear f0 f2 f3
      rcases Q1.out with ⟨v, d1, d2⟩ | ⟨v, d1, d2⟩ | ⟨hn, d1, d2⟩
      · have D1 := Lib.hid d1; clear d1
        have D2 := Lib.hid d2; clear d2
        go_wp2_with fail
        refine (D1.out _).mono ?_
        rintro e w3 ⟨rfl, hg3⟩
        have G3 := Lib.hid hg3; clear hg3
        go_wp2_with fail
        refine (D2.out _).mono ?_
        rintro e w4 ⟨rfl, hg4⟩
        have G4 := Lib.hid hg4; clear hg4
        go_wp2_with fail
        go_roundw
        case rel => exact ⟨2, by omega, by first | rfl | simp, grown_trans (grown_trans Hgr.out G3.out) (grown_trans (Grown.alloc (Grown.refl _) _ _) G4.out)⟩
        case measure => simp [intOf]
      · have D1 := Lib.hid d1; clear d1
        have D2 := Lib.hid d2; clear d2
        go_wp2_with fail
        refine (D1.out _).mono ?_
        rintro e w3 ⟨rfl, hg3⟩
        have G3 := Lib.hid hg3; clear hg3
        go_wp2_with fail
        refine (D2.out _).mono ?_
        rintro e w4 ⟨rfl, hg4⟩
        have G4 := Lib.hid hg4; clear hg4
        go_wp2_with fail
        go_roundw
        case rel => exact ⟨2, by omega, by first | rfl | simp, grown_trans (grown_trans Hgr.out G3.out) (grown_trans (Grown.alloc (Grown.refl _) _ _) G4.out)⟩
        case measure => simp [intOf]
      · have D1 := Lib.hid d1; clear d1
        have D2 := Lib.hid d2; clear d2
        have Hn2 : Hid (∀ w, Calls Try.prog 8 #[.int .u64 a] w (fun e w' => e = .returned (.bool true) ∧ w = w')) := Lib.hid fun w => by have := naN_any a w; rwa [hn] at this
        clear hn
        go_wp2_with fail
        refine (D1.out _).mono ?_
        rintro e w3 ⟨rfl, hg3⟩
        have G3 := Lib.hid hg3; clear hg3
        go_wp2_with fail
        refine (D2.out _).mono ?_
        rintro e w4 ⟨rfl, hg4⟩
        have G4 := Lib.hid hg4; clear hg4
        go_wp2_with fail
        refine (Hn2.out _).mono ?_
        rintro e w' ⟨rfl, rfl⟩
        go_wp2_with fail
        go_roundw
        case rel => exact ⟨2, by omega, by first | rfl | simp, grown_trans (grown_trans Hgr.out G3.out) (grown_trans (Grown.alloc (Grown.refl _) _ _) G4.out)⟩
        case measure => simp [intOf]
    · clear f0 f1 f3
      rcases Q2.out with ⟨v, d1, d2⟩ | ⟨v, d1, d2⟩ | ⟨hn, d1, d2⟩
      · have D1 := Lib.hid d1; clear d1
        have D2 := Lib.hid d2; clear d2
        go_wp2_with fail
        refine (D1.out _).mono ?_
        rintro e w3 ⟨rfl, hg3⟩
        have G3 := Lib.hid hg3; clear hg3
        go_wp2_with fail
        refine (D2.out _).mono ?_
        rintro e w4 ⟨rfl, hg4⟩
        have G4 := Lib.hid hg4; clear hg4
        go_wp2_with fail
        go_roundw
        case rel => exact ⟨3, by omega, by first | rfl | simp, grown_trans (grown_trans Hgr.out G3.out) (grown_trans (Grown.alloc (Grown.refl _) _ _) G4.out)⟩
        case measure => simp [intOf]
      · have D1 := Lib.hid d1; clear d1
        have D2 := Lib.hid d2; clear d2
        go_wp2_with fail
        refine (D1.out _).mono ?_
        rintro e w3 ⟨rfl, hg3⟩
        have G3 := Lib.hid hg3; clear hg3
        go_wp2_with fail
        refine (D2.out _).mono ?_
        rintro e w4 ⟨rfl, hg4⟩
        have G4 := Lib.hid hg4; clear hg4
        go_wp2_with fail
        go_roundw
        case rel => exact ⟨3, by omega, by first | rfl | simp, grown_trans (grown_trans Hgr.out G3.out) (grown_trans (Grown.alloc (Grown.refl _) _ _) G4.out)⟩
        case measure => simp [intOf]
      · have D1 := Lib.hid d1; clear d1
        have D2 := Lib.hid d2; clear d2
        have Hn2 : Hid (∀ w, Calls Try.prog 8 #[.int .u64 a] w (fun e w' => e = .returned (.bool true) ∧ w = w')) := Lib.hid fun w => by have := naN_any a w; rwa [hn] at this
        clear hn
        go_wp2_with fail
        refine (D1.out _).mono ?_
        rintro e w3 ⟨rfl, hg3⟩
        have G3 := Lib.hid hg3; clear hg3
        go_wp2_with fail
        refine (D2.out _).mono ?_
        rintro e w4 ⟨rfl, hg4⟩
        have G4 := Lib.hid hg4; clear hg4
        go_wp2_with fail
        refine (Hn2.out _).mono ?_
        rintro e w' ⟨rfl, rfl⟩
        go_wp2_with fail
        go_roundw
        case rel => exact ⟨3, by omega, by first | rfl | simp, grown_trans (grown_trans Hgr.out G3.out) (grown_trans (Grown.alloc (Grown.refl _) _ _) G4.out)⟩
        case measure => simp [intOf]
    · clear f0 f1 f2
      rcases Q3.out with ⟨v, d1, d2⟩ | ⟨v, d1, d2⟩ | ⟨hn, d1, d2⟩
      · have D1 := Lib.hid d1; clear d1
        have D2 := Lib.hid d2; clear d2
        go_wp2_with fail
        refine (D1.out _).mono ?_
        rintro e w3 ⟨rfl, hg3⟩
        have G3 := Lib.hid hg3; clear hg3
        go_wp2_with fail
        refine (D2.out _).mono ?_
        rintro e w4 ⟨rfl, hg4⟩
        have G4 := Lib.hid hg4; clear hg4
        go_wp2_with fail
        go_roundw
        case rel => exact ⟨4, by omega, by first | rfl | simp, grown_trans (grown_trans Hgr.out G3.out) (grown_trans (Grown.alloc (Grown.refl _) _ _) G4.out)⟩
        case measure => simp [intOf]
      · have D1 := Lib.hid d1; clear d1
        have D2 := Lib.hid d2; clear d2
        go_wp2_with fail
        refine (D1.out _).mono ?_
        rintro e w3 ⟨rfl, hg3⟩
        have G3 := Lib.hid hg3; clear hg3
        go_wp2_with fail
        refine (D2.out _).mono ?_
        rintro e w4 ⟨rfl, hg4⟩
        have G4 := Lib.hid hg4; clear hg4
        go_wp2_with fail
        go_roundw
        case rel => exact ⟨4, by omega, by first | rfl | simp, grown_trans (grown_trans Hgr.out G3.out) (grown_trans (Grown.alloc (Grown.refl _) _ _) G4.out)⟩
        case measure => simp [intOf]
      · have D1 := Lib.hid d1; clear d1
        have D2 := Lib.hid d2; clear d2
        have Hn2 : Hid (∀ w, Calls Try.prog 8 #[.int .u64 a] w (fun e w' => e = .returned (.bool true) ∧ w = w')) := Lib.hid fun w => by have := naN_any a w; rwa [hn] at this
        clear hn
        go_wp2_with fail
        refine (D1.out _).mono ?_
        rintro e w3 ⟨rfl, hg3⟩
        have G3 := Lib.hid hg3; clear hg3
        go_wp2_with fail
        refine (D2.out _).mono ?_
        rintro e w4 ⟨rfl, hg4⟩
        have G4 := Lib.hid hg4; clear hg4
        go_wp2_with fail
        refine (Hn2.out _).mono ?_
        rintro e w' ⟨rfl, rfl⟩
        go_wp2_with fail
        go_roundw
        case rel => exact ⟨4, by omega, by first | rfl | simp, grown_trans (grown_trans Hgr.out G3.out) (grown_trans (Grown.alloc (Grown.refl _) _ _) G4.out)⟩
        case measure => simp [intOf]
    · go_wp2_with fail
      refine (known_true _).mono ?_
      rintro e w5 ⟨rfl, hg5⟩
      have G5 := Lib.hid hg5; clear hg5
      go_wp2_with fail
      go_ret
      exact ⟨rfl, grown_trans (grown_trans (grown_trans G1.out G2.out) (grown_trans (Grown.alloc (Grown.refl _) _ _) Hgr.out)) G5.out⟩
theorem bits_walk (a n : Int) (a0 : 0 ≤ a) (a1 : a < 18446744073709551616) (n0 : 0 ≤ n) (n1 : n < 4294967296) (w : World) : Calls Try.prog 4 #[.int .u64 a, .int .u32 n] w fun e w' => e = .returned (.bool true) ∧ Grown w w' := by
  have hA := abs_bits a a0 a1
  refine bits_core a n _ _ (floatOfInt .f64 n : Nat) (floatOfInt .f64 (wrap64 (IntKind.u64.wrap (n * 4294967296)) / 4294967296) : Nat) n0 n1 rfl rfl ?_ ?_ ?_ ?_ ?_ ?_ ?_ ?_ (pairDo_0 a a0 a1) (pairDo_1 a a0 a1) (pairDo_2 a a0 a1) (pairDo_3 a a0 a1) w
  · intro w; rw [← hA]; exact do_153 a 0 w
  · intro w; exact do_154 a 0 w
  · intro w
    have := do_154 (bits .xor .u64 a 9223372036854775808) 0 w
    rwa [neg_back a a0 a1] at this
  · intro w; rw [← hA]
    have := do_166 (bits .andNot .u64 a 9223372036854775808) a w
    rwa [copy_back a a0 a1] at this
  · intro w
    have := do_184 n 0 w
    rwa [and_u32 n n0 n1] at this
  · exact back_u n n0 n1
  · intro w; exact do_183 n 0 w
  · exact back_s n n0 n1

end Go.Proofs.Ytdfjkollehhljaa
