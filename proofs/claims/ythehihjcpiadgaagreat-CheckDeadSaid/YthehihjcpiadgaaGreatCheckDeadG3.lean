/- Lemmas for the row of CheckDead, part 3: what its functions do. -/
import Derived.Deep.Light
import Derived.LoopN
import Derived.Test.YthehihjcpiadgaaGreatCheckDeadG2
section
namespace Go.Proofs.YthehihjcpiadgaaGreat
open Go.RowKit Go.Proofs.YthehihjcpiadgaaGreatW.PrintWords Go.Proofs.YthehihjcpiadgaaGreatW.PrintLast
set_option linter.unusedSimpArgs false
set_option linter.unusedVariables false
/-- A frame's place, and the rows of its type. -/
theorem stk_frame {w : World} {base g : Nat} {D : Nat → Prop} {fx : List Value} {s : Sp.St} {vT vF : Value} (h : StkAt w base g D fx s vT vF) (j : Nat) (hj : j < s.F.length) :
    ∃ gf cap v1 v2, vF = .slice (some ⟨gf, 0, none⟩) s.F.length cap ∧ gf ≠ g ∧ some gf ≠ vT.ownBlock ∧ gf < w.heap.size ∧
      w.cell? ⟨gf, j * 5, none⟩ = some (.int .i64 (rd_TFr s.F (j : Int)).f0) ∧ w.cell? ⟨gf, j * 5 + 1, none⟩ = some v1 ∧ w.cell? ⟨gf, j * 5 + 2, none⟩ = some v2 ∧ w.cell? ⟨gf, j * 5 + 3, none⟩ = some (.int .i64 (rd_TFr s.F (j : Int)).f2) ∧ w.cell? ⟨gf, j * 5 + 4, none⟩ = some (.bool (rd_TFr s.F (j : Int)).f3) ∧
      TypesR w base (fun k => k ≠ g ∧ some k ≠ vT.ownBlock ∧ some k ≠ vF.ownBlock) v1 (rd_TFr s.F (j : Int)).f1.f0 ∧ TypesR w base (fun k => k ≠ g ∧ some k ≠ vT.ownBlock ∧ some k ≠ vF.ownBlock) v2 (rd_TFr s.F (j : Int)).f1.f1 ∧ (∀ i, w.frozen? ⟨gf, j * 5 + i, none⟩ = false) := by
  obtain ⟨gf, cap, hvF, hgfg, hgfb, hgfD⟩ := stk_frames h (by omega)
  obtain ⟨hg0, hfx, hb, hDg, hT, hF, hFD, hD⟩ := h
  subst hvF
  have hlt : gf < w.heap.size := Kd.R_lt hF gf (by simp [Value.ownBlock])
  have hgT : some gf ≠ vT.ownBlock := (hF.1 gf (by simp [Value.ownBlock])).2
  obtain ⟨cs, hcl, hcM, hcc, hcf⟩ := Kd.R_elem hF zFr (j : Int) (by omega) (by omega)
  obtain ⟨v1, v2, hcs, hr1, hr2⟩ := kFr_openM hcM
  subst hcs
  rw [Int.toNat_natCast] at hcc hcf hr1 hr2
  refine ⟨gf, cap, v1, v2, rfl, hgfg, hgT, hlt, hcc 0 _ rfl, hcc 1 _ rfl, hcc 2 _ rfl, hcc 3 _ rfl, hcc 4 _ rfl, Kd.R_mono hr1 (fun k hk => ⟨hk.1.1, hk.1.2, fun e => hk.2 (by simpa [Value.ownBlock] using e)⟩), Kd.R_mono hr2 (fun k hk => ⟨hk.1.1, hk.1.2, fun e => hk.2 (by simpa [Value.ownBlock] using e)⟩), fun i => hcf i⟩
/-- A row that is none of the stacks' own stays. -/
theorem row_mv {w w' : World} {base g : Nat} {vT vF vT' vF' v : Value} {xs : List Int} {ok : Nat → Prop} (h : TypesR w base ok v xs) (m : Mv g w w' vT vF vT' vF') (hok : ∀ k, ok k → k ≠ g ∧ some k ≠ vT.ownBlock ∧ some k ≠ vF.ownBlock) :
    TypesR w' base (fun k => k ≠ g ∧ some k ≠ vT'.ownBlock ∧ some k ≠ vF'.ownBlock) v xs := by
  refine Kd.R_mono (Kd.R_move (Kd.R_bound h) (fun k hk => m.block k hk.2.2.1 (hok k hk.1).1 (hok k hk.1).2.1 (hok k hk.1).2.2)) (fun k hk => ?_)
  obtain ⟨h1, h2, h3⟩ := hok k hk.1
  have hlt := hk.2.2.1
  refine ⟨h1, fun e => ?_, fun e => ?_⟩
  · rcases m.atT k e.symm with q | q
    · exact h2 q.symm
    · omega
  · rcases m.atF k e.symm with q | q
    · exact h3 q.symm
    · omega
theorem stk_lt {w : World} {base g : Nat} {D : Nat → Prop} {fx : List Value} {s : Sp.St} {vT vF : Value} (h : StkAt w base g D fx s vT vF) : g < w.heap.size ∧ (∀ k, vT.ownBlock = some k → k < w.heap.size) ∧ ∀ k, vF.ownBlock = some k → k < w.heap.size := ⟨blk_lt h.1, Kd.R_lt h.2.2.2.2.1, Kd.R_lt h.2.2.2.2.2.1⟩
theorem arg_row {w : World} {base g : Nat} {D : Nat → Prop} {fx : List Value} {s : Sp.St} {vT vF v : Value} {xs : List Int} (h : StkAt w base g D fx s vT vF) (hr : TypesR w base (fun k => k ≠ g ∧ some k ≠ vT.ownBlock ∧ some k ≠ vF.ownBlock) v xs) : ArgRow w g vT vF v xs :=
  arg_of_R hr (fun _ hk => hk) (stk_lt h).1 (stk_lt h).2.1 (stk_lt h).2.2
theorem Mv.alloc {g : Nat} {a b : World} {t f t1 f1 : Value} (h : Mv g a b t f t1 f1) (o : Obj) : Mv g a (b.alloc o) t f t1 f1 :=
  h.trans (Mv.of_below (below_alloc (Below.refl _ _) o))
theorem Mv.set_new {g : Nat} {a b : World} {t f t1 f1 : Value} (h : Mv g a b t f t1 f1) {n j : Nat} (hn : a.heap.size ≤ n) (v : Value) : Mv g a (b.setCell ⟨n, j, none⟩ v) t f t1 f1 :=
  ⟨h.os, h.tape, h.output, by simp only [World.setCell]; simpa using h.size, fun k hk hg ht hf => (Below.heap_setCell b ⟨n, j, none⟩ v k (by show k ≠ n; omega)).trans (h.block k hk hg ht hf), h.atT, h.atF⟩
/-- A block that is none of the stacks' has turned. -/
theorem frames_ne {w : World} {base n t : Nat} {ok : Nat → Prop} {vF : Value} {xs : List SFr} {cs : Array Value} (h : FramesR w base ok vF xs) (hc : w.heap[n]? = some (.cells cs t (0, 0))) (t1 : t ≠ 3) (hn : some n ≠ vF.ownBlock) : FramesR w base (fun k => ok k ∧ k ≠ n) vF xs := by
  obtain ⟨h0, inner, ho, hr⟩ := h
  refine ⟨fun k hk => ⟨h0 k hk, fun e => hn (by rw [hk, e])⟩, inner, ho, hr.imp_ (fun _ _ hp => Kd.M_mono kFr (fun k hk => ⟨⟨hk.1.1, hk.2⟩, hk.1.2⟩) (Kd.M_types hp hc (fun q hq => ?_)))⟩
  simp [kFr, kTy, Kd.iso, Kd.pair, Kd.slice, Kd.int, Kd.bool, Kd.scalar] at hq
  omega
theorem stk_move {w w' : World} {base g : Nat} {D : Nat → Prop} {fx : List Value} {s : Sp.St} {vT vF : Value} (h : StkAt w base g D fx s vT vF) (hs : w.heap.size ≤ w'.heap.size) {n : Nat} (hn : ∀ k, k ≠ n → k < w.heap.size → w'.heap[k]? = w.heap[k]?) (ho : ∃ cs t, w.heap[n]? = some (.cells cs t (0, 0)) ∧ t ≠ 3 ∧ t ≠ 111) (hnF : some n ≠ vF.ownBlock) : StkAt w' base g D fx s vT vF := by
  obtain ⟨hg0, hfx, hb, hDg, hT, hF, hFD, hD⟩ := h
  obtain ⟨cs, t, hc, t1, t3⟩ := ho
  have hgn : g ≠ n := fun e => by subst e; rw [hg0] at hc; cases hc; exact t3 rfl
  refine ⟨(hn g hgn (blk_lt hg0)).trans hg0, hfx, hb, hDg, ?_, ?_, hFD, fun k hk => Nat.lt_of_lt_of_le (hD k hk) hs⟩
  · refine Kd.R_mono (Kd.R_move (Kd.R_bound hT) (fun k hk => hn k (fun e => ?_) hk.2.2.1)) (fun k hk => hk.1)
    obtain ⟨q, hq, cells, hcc⟩ := hk.2.2.2
    subst e; rw [hc] at hcc; cases hcc
    simp [Kd.int, Kd.scalar] at hq
    exact t1 hq
  · exact Kd.R_mono (Kd.R_move (Kd.R_bound (frames_ne hF hc t1 hnF)) (fun k hk => hn k hk.1.2 hk.2.2.1)) (fun k hk => hk.1.1)
theorem stk_below {w w' : World} {base g : Nat} {D : Nat → Prop} {fx : List Value} {s : Sp.St} {vT vF : Value} (h : StkAt w base g D fx s vT vF) (hb : Below w.heap.size w w') : StkAt w' base g D fx s vT vF :=
  ⟨(hb.block g (blk_lt h.1)).trans h.1, h.2.1, h.2.2.1, h.2.2.2.1, Kd.R_below h.2.2.2.2.1 hb, Kd.R_below h.2.2.2.2.2.1 hb, h.2.2.2.2.2.2.1, fun k hk => Nat.lt_of_lt_of_le (h.2.2.2.2.2.2.2 k hk) hb.size⟩
theorem any_F (s : Sp.St) : s.any.2.F = s.F := by unfold Sp.St.any; split <;> rfl
theorem pop1_F (s : Sp.St) (x : Int) : (s.pop1 x).F = s.F := by unfold Sp.St.pop1; split <;> exact any_F s
theorem pop_F (s : Sp.St) (l : List Int) : (s.pop l).F = s.F := by
  unfold Sp.St.pop
  induction l with
  | nil => rfl
  | cons a l ih => rw [List.foldr_cons, pop1_F]; exact ih
theorem stk_take {w : World} {base g n k h : Nat} {D : Nat → Prop} {fx : List Value} {s : Sp.St} {P : Option Addr} {vF : Value} (hS : StkAt w base g D fx s (.slice P n k) vF) (hh : h ≤ s.T.length) : StkAt (w.setCell ⟨g, 11, none⟩ (.slice P h k)).drew base g D fx ⟨s.T.take h, s.F, s.bad⟩ (.slice P h k) vF := by
  obtain ⟨hg0, hfx, hb, hDg, hT, hF, hFD, hD⟩ := hS
  exact stk_drewN (stk_types (s := s) hg0 hfx hb hDg (Kd.R_take (m := h) hT hh) (Kd.R_mono hF (fun k hk => ⟨hk.1, by cases P <;> exact hk.2⟩)) hFD hD) 1
theorem row_move {w w' : World} {base : Nat} {ok : Nat → Prop} {v : Value} {xs : List Int} (h : TypesR w base ok v xs) {n t : Nat} {cs : Array Value} (hn : ∀ k, k ≠ n → w'.heap[k]? = w.heap[k]?) (hc : w.heap[n]? = some (.cells cs t (0, 0))) (ht : t ≠ 3) : TypesR w' base ok v xs := by
  refine Kd.R_mono (Kd.R_move (Kd.R_bound h) (fun k hk => hn k (fun e => ?_))) (fun k hk => hk.1)
  obtain ⟨q, hq, cells, hcc⟩ := hk.2.2.2
  subst e; rw [hc] at hcc; cases hcc
  simp [Kd.int, Kd.scalar] at hq
  exact ht hq
theorem heap_set5 (W : World) (n k : Nat) (h : k ≠ n) (a b c d e : Value) : (((((W.setCell ⟨n, 0, none⟩ a).setCell ⟨n, 1, none⟩ b).setCell ⟨n, 2, none⟩ c).setCell ⟨n, 3, none⟩ d).setCell ⟨n, 4, none⟩ e).heap[k]? = W.heap[k]? :=
  (Below.heap_setCell _ ⟨n, 4, none⟩ e k h).trans ((Below.heap_setCell _ ⟨n, 3, none⟩ d k h).trans ((Below.heap_setCell _ ⟨n, 2, none⟩ c k h).trans ((Below.heap_setCell _ ⟨n, 1, none⟩ b k h).trans (Below.heap_setCell _ ⟨n, 0, none⟩ a k h))))
/-- What leave leaves. -/
def LeaveEnd (g base : Nat) (D : Nat → Prop) (fx : List Value) (w : World) (vT vF : Value) (s : Sp.St) (e : Ending) (w' : World) : Prop :=
  ∃ v1 v2, e = .returned (.agg #[.int .i64 s.top.f0, v1, v2, .int .i64 s.top.f2, .bool s.top.f3]) ∧ ∃ vT' vF', Mv g w w' vT vF vT' vF' ∧ StkAt w' base g D fx s.leave vT' vF' ∧
    TypesR w' base (fun k => k ≠ g ∧ some k ≠ vT'.ownBlock ∧ some k ≠ vF'.ownBlock) v1 s.top.f1.f0 ∧ TypesR w' base (fun k => k ≠ g ∧ some k ≠ vT'.ownBlock ∧ some k ≠ vF'.ownBlock) v2 s.top.f1.f1
set_option maxRecDepth 100000 in
set_option maxHeartbeats 8000000 in
theorem stacks_leave (w : World) (base g : Nat) (D : Nat → Prop) (fx : List Value) (s : Sp.St) (vT vF : Value) (h : StkAt w base g D fx s vT vF) (hI : Sp.SInv s) (ha : s.top.f1.f1.length ≤ 1000000) : Calls Tryz.prog 147 #[.pointer (some ⟨g, 0, none⟩)] w (LeaveEnd g base D fx w vT vF s) := by
  obtain ⟨j, hj⟩ : ∃ j, s.F.length = j + 1 := ⟨s.F.length - 1, by have := hI.1; omega⟩
  obtain ⟨gf, cap, v1, v2, hvF, hgfg, hgfT, hgfl, m0, m1, m2, m3, m4, r1, r2, hfz⟩ := stk_frame h j (by omega)
  have htop : s.top = rd_TFr s.F (j : Int) := by unfold Sp.St.top; rw [hj]; congr 1; omega
  rw [← htop] at m0 m3 m4 r1 r2
  have ej : s.F.length - 1 = j := by omega
  obtain ⟨glt, hTlt, hFlt⟩ := stk_lt h
  have HTOP := Lib.hid (fun o => stacks_top (w.alloc o) base g D fx s vT vF (stk_alloc h o) hI gf cap hvF)
  rw [ej] at HTOP
  obtain ⟨A1, c1, rfl⟩ := Kd.R_slice r1
  obtain ⟨A2, c2, rfl⟩ := Kd.R_slice r2
  obtain ⟨t, ht⟩ : ∃ t, t = s.pop s.top.f1.f1 := ⟨_, rfl⟩
  have hIt : Sp.SInv t := ht ▸ Sp.sinv_pop hI _
  have htF : t.F = s.F := by rw [ht]; exact pop_F _ _
  have hh : 0 ≤ s.top.f2 ∧ s.top.f2 ≤ t.T.length := by
    have := hIt.2.2.2.1 (j : Int) (by omega) (by rw [htF]; omega)
    rw [htF, ← htop] at this
    exact this
  have HPOP : Hid (∀ nt, Calls Tryz.prog 145 #[.pointer (some ⟨g, 0, none⟩), .slice A2 s.top.f1.f1.length c2] (((w.alloc (.cells #[.int .i64 0, .slice none 0 0, .slice none 0 0, .int .i64 0, .bool false] 113)).drewN nt).alloc (.cells #[.int .i64 s.top.f0, .slice A1 s.top.f1.f0.length c1, .slice A2 s.top.f1.f1.length c2, .int .i64 s.top.f2, .bool s.top.f3] 113))
      (fun e W => e = .returned (.tuple #[]) ∧ ∃ vT' vF', Mv g w W vT vF vT' vF' ∧ StkAt W base g D fx t vT' vF' ∧ W.heap[w.heap.size]? = some (.cells #[.int .i64 0, .slice none 0 0, .slice none 0 0, .int .i64 0, .bool false] 113 (0, 0)) ∧ W.heap[w.heap.size + 1]? = some (.cells #[.int .i64 s.top.f0, .slice A1 s.top.f1.f0.length c1, .slice A2 s.top.f1.f1.length c2, .int .i64 s.top.f2, .bool s.top.f3] 113 (0, 0)) ∧ some w.heap.size ≠ vF'.ownBlock ∧
        TypesR W base (fun k => k ≠ g ∧ some k ≠ vT'.ownBlock ∧ some k ≠ vF'.ownBlock) (.slice A1 s.top.f1.f0.length c1) s.top.f1.f0 ∧ TypesR W base (fun k => k ≠ g ∧ some k ≠ vT'.ownBlock ∧ some k ≠ vF'.ownBlock) (.slice A2 s.top.f1.f1.length c2) s.top.f1.f1)) := Lib.hid (fun nt => by
    have m0 : Mv g w (((w.alloc (.cells #[.int .i64 0, .slice none 0 0, .slice none 0 0, .int .i64 0, .bool false] 113)).drewN nt).alloc (.cells #[.int .i64 s.top.f0, .slice A1 s.top.f1.f0.length c1, .slice A2 s.top.f1.f1.length c2, .int .i64 s.top.f2, .bool s.top.f3] 113)) vT vF vT vF := (((Mv.refl g w vT vF).alloc _).drewN nt).alloc _
    have h0 := stk_alloc (stk_drewN (stk_alloc h (.cells #[.int .i64 0, .slice none 0 0, .slice none 0 0, .int .i64 0, .bool false] 113)) nt) (.cells #[.int .i64 s.top.f0, .slice A1 s.top.f1.f0.length c1, .slice A2 s.top.f1.f1.length c2, .int .i64 s.top.f2, .bool s.top.f3] 113)
    have x0 : (((w.alloc (.cells #[.int .i64 0, .slice none 0 0, .slice none 0 0, .int .i64 0, .bool false] 113)).drewN nt).alloc (.cells #[.int .i64 s.top.f0, .slice A1 s.top.f1.f0.length c1, .slice A2 s.top.f1.f1.length c2, .int .i64 s.top.f2, .bool s.top.f3] 113)).heap[w.heap.size]? = some (.cells #[.int .i64 0, .slice none 0 0, .slice none 0 0, .int .i64 0, .bool false] 113 (0, 0)) := blk_alloc (blk_drewN (heap_alloc_new w _) nt) _
    have x1 : (((w.alloc (.cells #[.int .i64 0, .slice none 0 0, .slice none 0 0, .int .i64 0, .bool false] 113)).drewN nt).alloc (.cells #[.int .i64 s.top.f0, .slice A1 s.top.f1.f0.length c1, .slice A2 s.top.f1.f1.length c2, .int .i64 s.top.f2, .bool s.top.f3] 113)).heap[w.heap.size + 1]? = some (.cells #[.int .i64 s.top.f0, .slice A1 s.top.f1.f0.length c1, .slice A2 s.top.f1.f1.length c2, .int .i64 s.top.f2, .bool s.top.f3] 113 (0, 0)) := by
      have := heap_alloc_new ((w.alloc (.cells #[.int .i64 0, .slice none 0 0, .slice none 0 0, .int .i64 0, .bool false] 113)).drewN nt) (.cells #[.int .i64 s.top.f0, .slice A1 s.top.f1.f0.length c1, .slice A2 s.top.f1.f1.length c2, .int .i64 s.top.f2, .bool s.top.f3] 113)
      simpa using this
    have x2 : (((w.alloc (.cells #[.int .i64 0, .slice none 0 0, .slice none 0 0, .int .i64 0, .bool false] 113)).drewN nt).alloc (.cells #[.int .i64 s.top.f0, .slice A1 s.top.f1.f0.length c1, .slice A2 s.top.f1.f1.length c2, .int .i64 s.top.f2, .bool s.top.f3] 113)).heap.size = w.heap.size + 2 := by simp
    generalize ((w.alloc (.cells #[.int .i64 0, .slice none 0 0, .slice none 0 0, .int .i64 0, .bool false] 113)).drewN nt).alloc (.cells #[.int .i64 s.top.f0, .slice A1 s.top.f1.f0.length c1, .slice A2 s.top.f1.f1.length c2, .int .i64 s.top.f2, .bool s.top.f3] 113) = W0 at m0 h0 x0 x1 x2 ⊢
    have q1 := row_mv r1 m0 (fun _ hk => hk)
    have q2 := row_mv r2 m0 (fun _ hk => hk)
    refine (stacks_popA W0 base g D fx s vT vF _ h0 hI s.top.f1.f1 (arg_row h0 q2) ha).mono ?_
    rintro e W ⟨rfl, vT', vF', m, hS⟩
    have nT : ∀ k, k = w.heap.size ∨ k = w.heap.size + 1 → some k ≠ vT.ownBlock ∧ some k ≠ vF.ownBlock := fun k hk => ⟨fun e => by have := hTlt _ e.symm; omega, fun e => by have := hFlt _ e.symm; omega⟩
    refine ⟨rfl, vT', vF', m0.trans m, ht ▸ hS, (m.block _ (by omega) (by omega) (nT _ (.inl rfl)).1 (nT _ (.inl rfl)).2).trans x0, (m.block _ (by omega) (by omega) (nT _ (.inr rfl)).1 (nT _ (.inr rfl)).2).trans x1, fun e => ?_, row_mv q1 m (fun _ hk => hk), row_mv q2 m (fun _ hk => hk)⟩
    rcases m.atF _ e.symm with q | q
    · exact (nT _ (.inl rfl)).2 q.symm
    · omega)
  have hlv : s.leave = ⟨t.T.take s.top.f2.toNat, t.F, t.bad || decide ((t.T.length : Int) > s.top.f2)⟩ := by
    unfold Sp.St.leave; rw [← ht, Nat.min_eq_right (by omega)]
  have HLV := Lib.hid hlv; have HIT := Lib.hid hIt; have HH := Lib.hid hh
  have hln := hIt.2.2.1
  have hh0 := hh.1
  have hh1 := hh.2
  have HS := Lib.hid h
  clear h hI r1 r2 hfz ha hj ej htop hTlt hFlt hlv ht htF hIt hh
  obtain ⟨bb, hbb⟩ : ∃ bb, bb = t.bad := ⟨_, rfl⟩
  obtain ⟨gt, hgt⟩ : ∃ gt, gt = decide ((t.T.length : Int) > s.top.f2) := ⟨_, rfl⟩
  have hgt' := hgt.symm
  have HBB := Lib.hid hbb; have HGT := Lib.hid hgt
  clear hbb hgt

  cases bb with
  | true =>
    go_enter Tryz.func147, Tryz.ntmps147
    go_wp2_with (first | ((go_at_call 144); (with_reducible refine (HTOP.out _).mono ?_); rintro e w' ⟨rfl, nt, rfl⟩) | ((go_at_call 145); (with_reducible refine (HPOP.out _).mono ?_); rintro e W ⟨rfl, vT', vF', m, hS, x0, x1, xF, q1, q2⟩; have c11 := (blk_cell hS.1 11).trans (stk_11 hS.2.1 _ _ _); have c13 := (blk_cell hS.1 13).trans (stk_13 hS.2.1 _ _ _); rw [← HBB.out] at c13; have f11 := blk_frozen hS.1 11; have f13 := blk_frozen hS.1 13; have y0 := (blk_cell x1 3).trans rfl; obtain ⟨P, kT, rfl⟩ := Kd.R_slice hS.2.2.2.2.1; have HM := Lib.hid m; have HS2 := Lib.hid hS; have HX0 := Lib.hid x0; have HX1 := Lib.hid x1; have HXF := Lib.hid xF; have HQ1 := Lib.hid q1; have HQ2 := Lib.hid q2; clear m hS x0 x1 xF q1 q2))
    refine start_ (n := 18) (S := fun w' => w'.cell? ⟨g, 13, none⟩ = some (.bool true)) (ds := [17]) #[false, false, false, false, false, false, false, false, false, false, false, false, false, false, false, false, false, false] (by kernel_rfl) rfl rfl c13 (fun hHeld => ?_)
    refine pure_ (i := 0) (N := some 13) (v := ?_) (a' := ?_) #[true, false, false, false, false, false, false, false, false, false, false, false, false, false, false, false, false, false] rfl rfl (by kernel_rfl) (fun _ _ _ h => h) (Or.inl ⟨by rfl, ?_⟩) ?_ ?_
    rotate_left
    · intro w'
      go_simp
      try with_reducible rfl
    rotate_left
    · simp only [Act.put, List.setIfInBounds_toArray, List.set_cons_zero, List.set_cons_succ, i64_w, i32_w]
      rfl
    refine pure_ (i := 1) (N := some 14) (v := ?_) (a' := ?_) #[true, true, false, false, false, false, false, false, false, false, false, false, false, false, false, false, false, false] rfl rfl (by kernel_rfl) (fun _ _ _ h => h) (Or.inl ⟨by rfl, ?_⟩) ?_ ?_
    rotate_left
    · intro w'
      go_simp
      try with_reducible rfl
    rotate_left
    · simp only [Act.put, List.setIfInBounds_toArray, List.set_cons_zero, List.set_cons_succ, i64_w, i32_w]
      rfl
    refine pure_ (i := 2) (N := some 15) (v := ?_) (a' := ?_) #[true, true, true, false, false, false, false, false, false, false, false, false, false, false, false, false, false, false] rfl rfl (by kernel_rfl) (fun _ _ _ h => h) (Or.inl ⟨by rfl, ?_⟩) ?_ ?_
    rotate_left
    · intro w'
      go_simp
      try with_reducible rfl
    rotate_left
    · simp only [Act.put, List.setIfInBounds_toArray, List.set_cons_zero, List.set_cons_succ, i64_w, i32_w]
      rfl
    refine pure_ (i := 3) (N := some 16) (v := ?_) (a' := ?_) #[true, true, true, true, false, false, false, false, false, false, false, false, false, false, false, false, false, false] rfl rfl (by kernel_rfl) (fun _ _ _ h => h) (Or.inl ⟨by rfl, ?_⟩) ?_ ?_
    rotate_left
    · intro w'
      go_simp
      try with_reducible rfl
    rotate_left
    · simp only [Act.put, List.setIfInBounds_toArray, List.set_cons_zero, List.set_cons_succ, i64_w, i32_w]
      rfl
    refine take_ (i := 4) (N := some 17) (v := ?_) (a' := ?_) #[true, true, true, true, true, false, false, false, false, false, false, false, false, false, false, false, false, false] rfl rfl (by kernel_rfl) (fun _ _ _ h => h) (Or.inl ⟨by rfl, ?_⟩) hHeld ?_ ?_
    rotate_left
    · intro w' s0
      go_simp
      try with_reducible rfl
    rotate_left
    · simp only [Act.put, List.setIfInBounds_toArray, List.set_cons_zero, List.set_cons_succ, i64_w, i32_w]
      rfl
    refine pure_ (i := 5) (N := some 18) (v := ?_) (a' := ?_) #[true, true, true, true, true, true, false, false, false, false, false, false, false, false, false, false, false, false] rfl rfl (by kernel_rfl) (fun _ _ _ h => h) (Or.inl ⟨by rfl, ?_⟩) ?_ ?_
    rotate_left
    · intro w'
      go_simp
      try with_reducible rfl
    rotate_left
    · simp only [Act.put, List.setIfInBounds_toArray, List.set_cons_zero, List.set_cons_succ, i64_w, i32_w]
      rfl
    refine pure_ (i := 6) (N := some 19) (v := undef) (a' := ?_) #[true, true, true, true, true, true, true, false, false, false, false, false, false, false, false, false, false, false] rfl rfl (by kernel_rfl) (fun _ _ _ h => h) (Or.inr ⟨by rfl, rfl⟩) ?_ ?_
    rotate_left
    · simp only [Act.put, List.setIfInBounds_toArray, List.set_cons_zero, List.set_cons_succ, i64_w, i32_w]
      rfl
    refine pure_ (i := 7) (N := some 20) (v := undef) (a' := ?_) #[true, true, true, true, true, true, true, true, false, false, false, false, false, false, false, false, false, false] rfl rfl (by kernel_rfl) (fun _ _ _ h => h) (Or.inr ⟨by rfl, rfl⟩) ?_ ?_
    rotate_left
    · simp only [Act.put, List.setIfInBounds_toArray, List.set_cons_zero, List.set_cons_succ, i64_w, i32_w]
      rfl
    refine pure_ (i := 8) (N := some 21) (v := undef) (a' := ?_) #[true, true, true, true, true, true, true, true, true, false, false, false, false, false, false, false, false, false] rfl rfl (by kernel_rfl) (fun _ _ _ h => h) (Or.inr ⟨by rfl, rfl⟩) ?_ ?_
    rotate_left
    · simp only [Act.put, List.setIfInBounds_toArray, List.set_cons_zero, List.set_cons_succ, i64_w, i32_w]
      rfl
    refine pure_ (i := 9) (N := some 22) (v := undef) (a' := ?_) #[true, true, true, true, true, true, true, true, true, true, false, false, false, false, false, false, false, false] rfl rfl (by kernel_rfl) (fun _ _ _ h => h) (Or.inr ⟨by rfl, rfl⟩) ?_ ?_
    rotate_left
    · simp only [Act.put, List.setIfInBounds_toArray, List.set_cons_zero, List.set_cons_succ, i64_w, i32_w]
      rfl
    refine pure_ (i := 10) (N := some 23) (v := undef) (a' := ?_) #[true, true, true, true, true, true, true, true, true, true, true, false, false, false, false, false, false, false] rfl rfl (by kernel_rfl) (fun _ _ _ h => h) (Or.inr ⟨by rfl, rfl⟩) ?_ ?_
    rotate_left
    · simp only [Act.put, List.setIfInBounds_toArray, List.set_cons_zero, List.set_cons_succ, i64_w, i32_w]
      rfl
    refine pure_ (i := 11) (N := some 24) (v := undef) (a' := ?_) #[true, true, true, true, true, true, true, true, true, true, true, true, false, false, false, false, false, false] rfl rfl (by kernel_rfl) (fun _ _ _ h => h) (Or.inr ⟨by rfl, rfl⟩) ?_ ?_
    rotate_left
    · simp only [Act.put, List.setIfInBounds_toArray, List.set_cons_zero, List.set_cons_succ, i64_w, i32_w]
      rfl
    refine pure_ (i := 12) (N := some 25) (v := undef) (a' := ?_) #[true, true, true, true, true, true, true, true, true, true, true, true, true, false, false, false, false, false] rfl rfl (by kernel_rfl) (fun _ _ _ h => h) (Or.inr ⟨by rfl, rfl⟩) ?_ ?_
    rotate_left
    · simp only [Act.put, List.setIfInBounds_toArray, List.set_cons_zero, List.set_cons_succ, i64_w, i32_w]
      rfl
    refine pure_ (i := 13) (N := some 26) (v := undef) (a' := ?_) #[true, true, true, true, true, true, true, true, true, true, true, true, true, true, false, false, false, false] rfl rfl (by kernel_rfl) (fun _ _ _ h => h) (Or.inr ⟨by rfl, rfl⟩) ?_ ?_
    rotate_left
    · simp only [Act.put, List.setIfInBounds_toArray, List.set_cons_zero, List.set_cons_succ, i64_w, i32_w]
      rfl
    refine pure_ (i := 14) (N := some 27) (v := ?_) (a' := ?_) #[true, true, true, true, true, true, true, true, true, true, true, true, true, true, true, false, false, false] rfl rfl (by kernel_rfl) (fun _ _ _ h => h) (Or.inl ⟨by rfl, ?_⟩) ?_ ?_
    rotate_left
    · intro w'
      go_simp
      try with_reducible rfl
    rotate_left
    · simp only [Act.put, List.setIfInBounds_toArray, List.set_cons_zero, List.set_cons_succ, i64_w, i32_w]
      rfl
    refine pure_ (i := 15) (N := some 28) (v := ?_) (a' := ?_) #[true, true, true, true, true, true, true, true, true, true, true, true, true, true, true, true, false, false] rfl rfl (by kernel_rfl) (fun _ _ _ h => h) (Or.inl ⟨by rfl, ?_⟩) ?_ ?_
    rotate_left
    · intro w'
      go_simp
      try with_reducible rfl
    rotate_left
    · simp only [Act.put, List.setIfInBounds_toArray, List.set_cons_zero, List.set_cons_succ, i64_w, i32_w]
      rfl
    refine pure_ (i := 16) (N := some 29) (v := ?_) (a' := ?_) #[true, true, true, true, true, true, true, true, true, true, true, true, true, true, true, true, true, false] rfl rfl (by kernel_rfl) (fun _ _ _ h => h) (Or.inl ⟨by rfl, ?_⟩) ?_ ?_
    rotate_left
    · intro w'
      go_simp
      try with_reducible rfl
    rotate_left
    · simp only [Act.put, List.setIfInBounds_toArray, List.set_cons_zero, List.set_cons_succ, i64_w, i32_w]
      rfl
    refine last_ (i := 17) (N := none) #[true, true, true, true, true, true, true, true, true, true, true, true, true, true, true, true, true, true] rfl rfl (by kernel_rfl) (by decide) (fun K hK => ?_)
    rw [if_pos (by rfl)]
    go_simp
    refine hK.out _ _ ?_
    clear hK K
    refine done_ (by kernel_rfl) ?_
    go_wp2_with fail
    have h3 : StkAt (W.setCell ⟨g, 13, none⟩ (.bool true)).drew base g D fx ⟨t.T, t.F, true⟩ (.slice P t.T.length kT) vF' := stk_drewN (stk_bad HS2.out _) 1
    have z0 := blk_drew (blk_far HX0.out (p := ⟨g, 13, none⟩) (by show w.heap.size ≠ g; omega) (.bool true))
    have z1 := blk_drew (blk_far HX1.out (p := ⟨g, 13, none⟩) (by show w.heap.size + 1 ≠ g; omega) (.bool true))
    have m3 : Mv g w (W.setCell ⟨g, 13, none⟩ (.bool true)).drew vT vF _ vF' := (HM.out.set 13 (.bool true)).drewN 1
    have q1 : TypesR (W.setCell ⟨g, 13, none⟩ (.bool true)).drew base _ _ _ := Kd.R_drewN (Kd.R_far HQ1.out (p := ⟨g, 13, none⟩) (fun k hk => hk.1) (.bool true)) 1
    have q2 : TypesR (W.setCell ⟨g, 13, none⟩ (.bool true)).drew base _ _ _ := Kd.R_drewN (Kd.R_far HQ2.out (p := ⟨g, 13, none⟩) (fun k hk => hk.1) (.bool true)) 1
    clear c11 c13 f11 f13 y0
    generalize (W.setCell ⟨g, 13, none⟩ (.bool true)).drew = W3 at h3 z0 z1 m3 q1 q2 ⊢
    have c11 := (blk_cell h3.1 11).trans (stk_11 h3.2.1 _ _ _)
    have f11 := blk_frozen h3.1 11
    have y0 := (blk_cell z1 3).trans rfl
    have hcap : s.top.f2 ≤ (kT : Int) := by have := (Kd.R_reads' h3.2.2.2.2.1).2.1; omega
    have hmin : (if s.top.f2 < (t.T.length : Int) then s.top.f2 else (t.T.length : Int)) = s.top.f2 := by split <;> omega
    have HS4 := Lib.hid (stk_take (h := s.top.f2.toNat) h3 (by show s.top.f2.toNat ≤ t.T.length; omega))
    have HQ1b := Lib.hid q1; have HQ2b := Lib.hid q2; clear q1 q2
    have HS3 := Lib.hid h3; have HZ0 := Lib.hid z0; have HZ1 := Lib.hid z1; have HM3 := Lib.hid m3
    clear h3 z0 z1 m3
    refine start_ (n := 17) (S := fun w' => w'.cell? ⟨g, 11, none⟩ = some (.slice P t.T.length kT) ∧ w'.cell? ⟨w.heap.size + 1, 3, none⟩ = some (.int .i64 s.top.f2)) (ds := [16]) #[false, false, false, false, false, false, false, false, false, false, false, false, false, false, false, false, false] (by kernel_rfl) rfl rfl ⟨c11, y0⟩ (fun hHeld => ?_)
    refine pure_ (i := 0) (N := some 30) (v := ?_) (a' := ?_) #[true, false, false, false, false, false, false, false, false, false, false, false, false, false, false, false, false] rfl rfl (by kernel_rfl) (fun _ _ _ h => h) (Or.inl ⟨by rfl, ?_⟩) ?_ ?_
    rotate_left
    · intro w'
      go_simp
      try with_reducible rfl
    rotate_left
    · simp only [Act.put, List.setIfInBounds_toArray, List.set_cons_zero, List.set_cons_succ, i64_w, i32_w]
      rfl
    refine pure_ (i := 1) (N := some 31) (v := ?_) (a' := ?_) #[true, true, false, false, false, false, false, false, false, false, false, false, false, false, false, false, false] rfl rfl (by kernel_rfl) (fun _ _ _ h => h) (Or.inl ⟨by rfl, ?_⟩) ?_ ?_
    rotate_left
    · intro w'
      go_simp
      try with_reducible rfl
    rotate_left
    · simp only [Act.put, List.setIfInBounds_toArray, List.set_cons_zero, List.set_cons_succ, i64_w, i32_w]
      rfl
    refine pure_ (i := 2) (N := some 32) (v := ?_) (a' := ?_) #[true, true, true, false, false, false, false, false, false, false, false, false, false, false, false, false, false] rfl rfl (by kernel_rfl) (fun _ _ _ h => h) (Or.inl ⟨by rfl, ?_⟩) ?_ ?_
    rotate_left
    · intro w'
      go_simp
      try with_reducible rfl
    rotate_left
    · simp only [Act.put, List.setIfInBounds_toArray, List.set_cons_zero, List.set_cons_succ, i64_w, i32_w]
      rfl
    refine pure_ (i := 3) (N := some 33) (v := ?_) (a' := ?_) #[true, true, true, true, false, false, false, false, false, false, false, false, false, false, false, false, false] rfl rfl (by kernel_rfl) (fun _ _ _ h => h) (Or.inl ⟨by rfl, ?_⟩) ?_ ?_
    rotate_left
    · intro w'
      go_simp
      try with_reducible rfl
    rotate_left
    · simp only [Act.put, List.setIfInBounds_toArray, List.set_cons_zero, List.set_cons_succ, i64_w, i32_w]
      rfl
    refine take_ (i := 4) (N := some 34) (v := ?_) (a' := ?_) #[true, true, true, true, true, false, false, false, false, false, false, false, false, false, false, false, false] rfl rfl (by kernel_rfl) (fun _ _ _ h => h) (Or.inl ⟨by rfl, ?_⟩) hHeld ?_ ?_
    rotate_left
    · rintro w' ⟨s0, s1⟩
      go_simp
      try with_reducible rfl
    rotate_left
    · simp only [Act.put, List.setIfInBounds_toArray, List.set_cons_zero, List.set_cons_succ, i64_w, i32_w]
      rfl
    refine pure_ (i := 5) (N := some 35) (v := ?_) (a' := ?_) #[true, true, true, true, true, true, false, false, false, false, false, false, false, false, false, false, false] rfl rfl (by kernel_rfl) (fun _ _ _ h => h) (Or.inl ⟨by rfl, ?_⟩) ?_ ?_
    rotate_left
    · intro w'
      go_simp
      try with_reducible rfl
    rotate_left
    · simp only [Act.put, List.setIfInBounds_toArray, List.set_cons_zero, List.set_cons_succ, i64_w, i32_w]
      rfl
    refine pure_ (i := 6) (N := some 36) (v := ?_) (a' := ?_) #[true, true, true, true, true, true, true, false, false, false, false, false, false, false, false, false, false] rfl rfl (by kernel_rfl) (fun _ _ _ h => h) (Or.inl ⟨by rfl, ?_⟩) ?_ ?_
    rotate_left
    · intro w'
      go_simp
      try with_reducible rfl
    rotate_left
    · simp only [Act.put, List.setIfInBounds_toArray, List.set_cons_zero, List.set_cons_succ, i64_w, i32_w]
      rfl
    refine pure_ (i := 7) (N := some 37) (v := ?_) (a' := ?_) #[true, true, true, true, true, true, true, true, false, false, false, false, false, false, false, false, false] rfl rfl (by kernel_rfl) (fun _ _ _ h => h) (Or.inl ⟨by rfl, ?_⟩) ?_ ?_
    rotate_left
    · intro w'
      go_simp
      try with_reducible rfl
    rotate_left
    · simp only [Act.put, List.setIfInBounds_toArray, List.set_cons_zero, List.set_cons_succ, i64_w, i32_w]
      rfl
    refine take_ (i := 8) (N := some 38) (v := ?_) (a' := ?_) #[true, true, true, true, true, true, true, true, true, false, false, false, false, false, false, false, false] rfl rfl (by kernel_rfl) (fun _ _ _ h => h) (Or.inl ⟨by rfl, ?_⟩) hHeld ?_ ?_
    rotate_left
    · rintro w' ⟨s0, s1⟩
      go_simp
      try with_reducible rfl
    rotate_left
    · simp only [Act.put, List.setIfInBounds_toArray, List.set_cons_zero, List.set_cons_succ, i64_w, i32_w]
      rfl
    refine pure_ (i := 9) (N := some 39) (v := ?_) (a' := ?_) #[true, true, true, true, true, true, true, true, true, true, false, false, false, false, false, false, false] rfl rfl (by kernel_rfl) (fun _ _ _ h => h) (Or.inl ⟨by rfl, ?_⟩) ?_ ?_
    rotate_left
    · intro w'
      go_simp
      try with_reducible rfl
    rotate_left
    · simp only [Act.put, List.setIfInBounds_toArray, List.set_cons_zero, List.set_cons_succ, i64_w, i32_w]
      rfl
    refine pure_ (i := 10) (N := some 40) (v := ?_) (a' := ?_) #[true, true, true, true, true, true, true, true, true, true, true, false, false, false, false, false, false] rfl rfl (by kernel_rfl) (fun _ _ _ h => h) (Or.inl ⟨by rfl, ?_⟩) ?_ ?_
    rotate_left
    · intro w'
      go_simp
      try with_reducible rfl
    rotate_left
    · simp only [Act.put, List.setIfInBounds_toArray, List.set_cons_zero, List.set_cons_succ, i64_w, i32_w]
      rfl
    refine take_ (i := 11) (N := some 41) (v := ?_) (a' := ?_) #[true, true, true, true, true, true, true, true, true, true, true, true, false, false, false, false, false] rfl rfl (by kernel_rfl) (fun _ _ _ h => h) (Or.inl ⟨by rfl, ?_⟩) hHeld ?_ ?_
    rotate_left
    · rintro w' ⟨s0, s1⟩
      go_simp
      try with_reducible rfl
    rotate_left
    · simp only [Act.put, List.setIfInBounds_toArray, List.set_cons_zero, List.set_cons_succ, i64_w, i32_w]
      rfl
    refine pure_ (i := 12) (N := some 42) (v := ?_) (a' := ?_) #[true, true, true, true, true, true, true, true, true, true, true, true, true, false, false, false, false] rfl rfl (by kernel_rfl) (fun _ _ _ h => h) (Or.inl ⟨by rfl, ?_⟩) ?_ ?_
    rotate_left
    · intro w'
      go_simp
      try with_reducible rfl
    rotate_left
    · simp only [Act.put, List.setIfInBounds_toArray, List.set_cons_zero, List.set_cons_succ, i64_w, i32_w]
      rfl
    refine pure_ (i := 13) (N := some 43) (v := ?_) (a' := ?_) #[true, true, true, true, true, true, true, true, true, true, true, true, true, true, false, false, false] rfl rfl (by kernel_rfl) (fun _ _ _ h => h) (Or.inl ⟨by rfl, ?_⟩) ?_ ?_
    rotate_left
    · intro w'
      go_simp
      try with_reducible rfl
    rotate_left
    · simp only [Act.put, List.setIfInBounds_toArray, List.set_cons_zero, List.set_cons_succ, i64_w, i32_w]
      rfl
    refine pure_ (i := 14) (N := some 44) (v := ?_) (a' := ?_) #[true, true, true, true, true, true, true, true, true, true, true, true, true, true, true, false, false] rfl rfl (by kernel_rfl) (fun _ _ _ h => h) (Or.inl ⟨by rfl, ?_⟩) ?_ ?_
    rotate_left
    · intro w'
      go_simp
      try with_reducible rfl
    rotate_left
    · simp only [Act.put, List.setIfInBounds_toArray, List.set_cons_zero, List.set_cons_succ, i64_w, i32_w]
      rfl
    refine pure_ (i := 15) (N := some 45) (v := ?_) (a' := ?_) #[true, true, true, true, true, true, true, true, true, true, true, true, true, true, true, true, false] rfl rfl (by kernel_rfl) (fun _ _ _ h => h) (Or.inl ⟨by rfl, ?_⟩) ?_ ?_
    rotate_left
    · intro w'
      go_simp
      try with_reducible rfl
    rotate_left
    · simp only [Act.put, List.setIfInBounds_toArray, List.set_cons_zero, List.set_cons_succ, i64_w, i32_w]
      rfl
    refine last_ (i := 16) (N := none) #[true, true, true, true, true, true, true, true, true, true, true, true, true, true, true, true, true] rfl rfl (by kernel_rfl) (by decide) (fun K hK => ?_)
    rw [if_pos (by rfl)]
    go_simp
    refine hK.out _ _ ?_
    clear hK K
    refine done_ (by kernel_rfl) ?_
    have h4 := HS4.out
    have z0 := blk_drew (blk_far HZ0.out (p := ⟨g, 11, none⟩) (by show w.heap.size ≠ g; omega) (.slice P s.top.f2.toNat kT))
    have z1 := blk_drew (blk_far HZ1.out (p := ⟨g, 11, none⟩) (by show w.heap.size + 1 ≠ g; omega) (.slice P s.top.f2.toNat kT))
    have m4 : Mv g w (W3.setCell ⟨g, 11, none⟩ (.slice P s.top.f2.toNat kT)).drew vT vF (.slice P s.top.f2.toNat kT) vF' := ((HM3.out.set 11 (.slice P s.top.f2.toNat kT)).drewN 1).same_T (by cases P <;> rfl)
    have q1 : TypesR (W3.setCell ⟨g, 11, none⟩ (.slice P s.top.f2.toNat kT)).drew base (fun k => k ≠ g ∧ some k ≠ (Value.slice P s.top.f2.toNat kT).ownBlock ∧ some k ≠ vF'.ownBlock) _ _ := Kd.R_mono (Kd.R_drewN (Kd.R_far HQ1b.out (p := ⟨g, 11, none⟩) (fun k hk => hk.1) (.slice P s.top.f2.toNat kT)) 1) (fun k hk => ⟨hk.1, by cases P <;> exact hk.2.1, hk.2.2⟩)
    have q2 : TypesR (W3.setCell ⟨g, 11, none⟩ (.slice P s.top.f2.toNat kT)).drew base (fun k => k ≠ g ∧ some k ≠ (Value.slice P s.top.f2.toNat kT).ownBlock ∧ some k ≠ vF'.ownBlock) _ _ := Kd.R_mono (Kd.R_drewN (Kd.R_far HQ2b.out (p := ⟨g, 11, none⟩) (fun k hk => hk.1) (.slice P s.top.f2.toNat kT)) 1) (fun k hk => ⟨hk.1, by cases P <;> exact hk.2.1, hk.2.2⟩)
    clear c11 f11 y0
    generalize (W3.setCell ⟨g, 11, none⟩ (.slice P s.top.f2.toNat kT)).drew = W4 at h4 z0 z1 m4 q1 q2 ⊢
    have y0 := (blk_cell z1 0).trans rfl
    have y1 := (blk_cell z1 1).trans rfl
    have y2 := (blk_cell z1 2).trans rfl
    have y3 := (blk_cell z1 3).trans rfl
    have y4 := (blk_cell z1 4).trans rfl
    have x0 := (blk_cell z0 0).trans rfl
    have x1 := (blk_cell z0 1).trans rfl
    have x2 := (blk_cell z0 2).trans rfl
    have x3 := (blk_cell z0 3).trans rfl
    have x4 := (blk_cell z0 4).trans rfl
    have f0 := blk_frozen z0 0
    have f1 := blk_frozen z0 1
    have f2 := blk_frozen z0 2
    have f3 := blk_frozen z0 3
    have f4 := blk_frozen z0 4
    have HS5 := Lib.hid h4; have HM5 := Lib.hid m4; have HZ5 := Lib.hid z0; have HQ1c := Lib.hid q1; have HQ2c := Lib.hid q2
    clear h4 z0 z1 m4 q1 q2 hmin
    go_wp2_with fail
    refine bodyPost_ret (v := .agg #[.int .i64 s.top.f0, .slice A1 s.top.f1.f0.length c1, .slice A2 s.top.f1.f1.length c2, .int .i64 s.top.f2, .bool s.top.f3]) (by have hb := blk_set (blk_set (blk_set (blk_set (blk_set HZ5.out 0 (.int .i64 s.top.f0)) 1 (.slice A1 s.top.f1.f0.length c1)) 2 (.slice A2 s.top.f1.f1.length c2)) 3 (.int .i64 s.top.f2)) 4 (.bool s.top.f3); have e0 := (blk_cell hb 0).trans rfl; have e1 := (blk_cell hb 1).trans rfl; have e2 := (blk_cell hb 2).trans rfl; have e3 := (blk_cell hb 3).trans rfl; have e4 := (blk_cell hb 4).trans rfl; generalize ((((W4.setCell ⟨w.heap.size, 0, none⟩ (.int .i64 s.top.f0)).setCell ⟨w.heap.size, 1, none⟩ (.slice A1 s.top.f1.f0.length c1)).setCell ⟨w.heap.size, 2, none⟩ (.slice A2 s.top.f1.f1.length c2)).setCell ⟨w.heap.size, 3, none⟩ (.int .i64 s.top.f2)).setCell ⟨w.heap.size, 4, none⟩ (.bool s.top.f3) = W5 at e0 e1 e2 e3 e4 ⊢; clear hb; simp [results, Tryz.results147, go_sem, e0, e1, e2, e3, e4] <;> rfl) rfl ?_
    rw [← hvF]
    refine ⟨.slice A1 s.top.f1.f0.length c1, .slice A2 s.top.f1.f1.length c2, rfl, _, vF', ((((HM5.out.set_new (Nat.le_refl _) _).set_new (Nat.le_refl _) _).set_new (Nat.le_refl _) _).set_new (Nat.le_refl _) _).set_new (Nat.le_refl _) _, ?_, row_move HQ1c.out (fun k hk => heap_set5 W4 w.heap.size k hk _ _ _ _ _) HZ5.out (by decide), row_move HQ2c.out (fun k hk => heap_set5 W4 w.heap.size k hk _ _ _ _ _) HZ5.out (by decide)⟩
    rw [HLV.out, ← HBB.out, ← HGT.out]
    rw [Bool.true_or]
    exact stk_move HS5.out (by simp only [World.setCell]; simp) (fun k hk _ => heap_set5 W4 w.heap.size k hk _ _ _ _ _) ⟨_, _, HZ5.out, by decide, by decide⟩ HXF.out
  | false =>
    go_enter Tryz.func147, Tryz.ntmps147
    go_wp2_with (first | ((go_at_call 144); (with_reducible refine (HTOP.out _).mono ?_); rintro e w' ⟨rfl, nt, rfl⟩) | ((go_at_call 145); (with_reducible refine (HPOP.out _).mono ?_); rintro e W ⟨rfl, vT', vF', m, hS, x0, x1, xF, q1, q2⟩; have c11 := (blk_cell hS.1 11).trans (stk_11 hS.2.1 _ _ _); have c13 := (blk_cell hS.1 13).trans (stk_13 hS.2.1 _ _ _); rw [← HBB.out] at c13; have f11 := blk_frozen hS.1 11; have f13 := blk_frozen hS.1 13; have y0 := (blk_cell x1 3).trans rfl; obtain ⟨P, kT, rfl⟩ := Kd.R_slice hS.2.2.2.2.1; have HM := Lib.hid m; have HS2 := Lib.hid hS; have HX0 := Lib.hid x0; have HX1 := Lib.hid x1; have HXF := Lib.hid xF; have HQ1 := Lib.hid q1; have HQ2 := Lib.hid q2; clear m hS x0 x1 xF q1 q2))
    refine start_ (n := 18) (S := fun w' => w'.cell? ⟨g, 13, none⟩ = some (.bool false) ∧ w'.cell? ⟨g, 11, none⟩ = some (.slice P t.T.length kT) ∧ w'.cell? ⟨w.heap.size + 1, 3, none⟩ = some (.int .i64 s.top.f2)) (ds := [17]) #[false, false, false, false, false, false, false, false, false, false, false, false, false, false, false, false, false, false] (by kernel_rfl) rfl rfl ⟨c13, c11, y0⟩ (fun hHeld => ?_)
    refine pure_ (i := 0) (N := some 13) (v := ?_) (a' := ?_) #[true, false, false, false, false, false, false, false, false, false, false, false, false, false, false, false, false, false] rfl rfl (by kernel_rfl) (fun _ _ _ h => h) (Or.inl ⟨by rfl, ?_⟩) ?_ ?_
    rotate_left
    · intro w'
      go_simp
      try with_reducible rfl
    rotate_left
    · simp only [Act.put, List.setIfInBounds_toArray, List.set_cons_zero, List.set_cons_succ, i64_w, i32_w]
      rfl
    refine pure_ (i := 1) (N := some 14) (v := ?_) (a' := ?_) #[true, true, false, false, false, false, false, false, false, false, false, false, false, false, false, false, false, false] rfl rfl (by kernel_rfl) (fun _ _ _ h => h) (Or.inl ⟨by rfl, ?_⟩) ?_ ?_
    rotate_left
    · intro w'
      go_simp
      try with_reducible rfl
    rotate_left
    · simp only [Act.put, List.setIfInBounds_toArray, List.set_cons_zero, List.set_cons_succ, i64_w, i32_w]
      rfl
    refine pure_ (i := 2) (N := some 15) (v := ?_) (a' := ?_) #[true, true, true, false, false, false, false, false, false, false, false, false, false, false, false, false, false, false] rfl rfl (by kernel_rfl) (fun _ _ _ h => h) (Or.inl ⟨by rfl, ?_⟩) ?_ ?_
    rotate_left
    · intro w'
      go_simp
      try with_reducible rfl
    rotate_left
    · simp only [Act.put, List.setIfInBounds_toArray, List.set_cons_zero, List.set_cons_succ, i64_w, i32_w]
      rfl
    refine pure_ (i := 3) (N := some 16) (v := ?_) (a' := ?_) #[true, true, true, true, false, false, false, false, false, false, false, false, false, false, false, false, false, false] rfl rfl (by kernel_rfl) (fun _ _ _ h => h) (Or.inl ⟨by rfl, ?_⟩) ?_ ?_
    rotate_left
    · intro w'
      go_simp
      try with_reducible rfl
    rotate_left
    · simp only [Act.put, List.setIfInBounds_toArray, List.set_cons_zero, List.set_cons_succ, i64_w, i32_w]
      rfl
    refine take_ (i := 4) (N := some 17) (v := ?_) (a' := ?_) #[true, true, true, true, true, false, false, false, false, false, false, false, false, false, false, false, false, false] rfl rfl (by kernel_rfl) (fun _ _ _ h => h) (Or.inl ⟨by rfl, ?_⟩) hHeld ?_ ?_
    rotate_left
    · rintro w' ⟨s0, s1, s2⟩
      go_simp
      try with_reducible rfl
    rotate_left
    · simp only [Act.put, List.setIfInBounds_toArray, List.set_cons_zero, List.set_cons_succ, i64_w, i32_w]
      rfl
    refine pure_ (i := 5) (N := some 18) (v := ?_) (a' := ?_) #[true, true, true, true, true, true, false, false, false, false, false, false, false, false, false, false, false, false] rfl rfl (by kernel_rfl) (fun _ _ _ h => h) (Or.inl ⟨by rfl, ?_⟩) ?_ ?_
    rotate_left
    · intro w'
      go_simp
      try with_reducible rfl
    rotate_left
    · simp only [Act.put, List.setIfInBounds_toArray, List.set_cons_zero, List.set_cons_succ, i64_w, i32_w]
      rfl
    refine pure_ (i := 6) (N := some 19) (v := ?_) (a' := ?_) #[true, true, true, true, true, true, true, false, false, false, false, false, false, false, false, false, false, false] rfl rfl (by kernel_rfl) (fun _ _ _ h => h) (Or.inl ⟨by rfl, ?_⟩) ?_ ?_
    rotate_left
    · intro w'
      go_simp
      try with_reducible rfl
    rotate_left
    · simp only [Act.put, List.setIfInBounds_toArray, List.set_cons_zero, List.set_cons_succ, i64_w, i32_w]
      rfl
    refine pure_ (i := 7) (N := some 20) (v := ?_) (a' := ?_) #[true, true, true, true, true, true, true, true, false, false, false, false, false, false, false, false, false, false] rfl rfl (by kernel_rfl) (fun _ _ _ h => h) (Or.inl ⟨by rfl, ?_⟩) ?_ ?_
    rotate_left
    · intro w'
      go_simp
      try with_reducible rfl
    rotate_left
    · simp only [Act.put, List.setIfInBounds_toArray, List.set_cons_zero, List.set_cons_succ, i64_w, i32_w]
      rfl
    refine pure_ (i := 8) (N := some 21) (v := ?_) (a' := ?_) #[true, true, true, true, true, true, true, true, true, false, false, false, false, false, false, false, false, false] rfl rfl (by kernel_rfl) (fun _ _ _ h => h) (Or.inl ⟨by rfl, ?_⟩) ?_ ?_
    rotate_left
    · intro w'
      go_simp
      try with_reducible rfl
    rotate_left
    · simp only [Act.put, List.setIfInBounds_toArray, List.set_cons_zero, List.set_cons_succ, i64_w, i32_w]
      rfl
    refine take_ (i := 9) (N := some 22) (v := ?_) (a' := ?_) #[true, true, true, true, true, true, true, true, true, true, false, false, false, false, false, false, false, false] rfl rfl (by kernel_rfl) (fun _ _ _ h => h) (Or.inl ⟨by rfl, ?_⟩) hHeld ?_ ?_
    rotate_left
    · rintro w' ⟨s0, s1, s2⟩
      go_simp
      try with_reducible rfl
    rotate_left
    · simp only [Act.put, List.setIfInBounds_toArray, List.set_cons_zero, List.set_cons_succ, i64_w, i32_w]
      rfl
    refine pure_ (i := 10) (N := some 23) (v := ?_) (a' := ?_) #[true, true, true, true, true, true, true, true, true, true, true, false, false, false, false, false, false, false] rfl rfl (by kernel_rfl) (fun _ _ _ h => h) (Or.inl ⟨by rfl, ?_⟩) ?_ ?_
    rotate_left
    · intro w'
      go_simp
      try with_reducible rfl
    rotate_left
    · simp only [Act.put, List.setIfInBounds_toArray, List.set_cons_zero, List.set_cons_succ, i64_w, i32_w]
      rfl
    refine pure_ (i := 11) (N := some 24) (v := ?_) (a' := ?_) #[true, true, true, true, true, true, true, true, true, true, true, true, false, false, false, false, false, false] rfl rfl (by kernel_rfl) (fun _ _ _ h => h) (Or.inl ⟨by rfl, ?_⟩) ?_ ?_
    rotate_left
    · intro w'
      go_simp
      try with_reducible rfl
    rotate_left
    · simp only [Act.put, List.setIfInBounds_toArray, List.set_cons_zero, List.set_cons_succ, i64_w, i32_w]
      rfl
    refine take_ (i := 12) (N := some 25) (v := ?_) (a' := ?_) #[true, true, true, true, true, true, true, true, true, true, true, true, true, false, false, false, false, false] rfl rfl (by kernel_rfl) (fun _ _ _ h => h) (Or.inl ⟨by rfl, ?_⟩) hHeld ?_ ?_
    rotate_left
    · rintro w' ⟨s0, s1, s2⟩
      go_simp
      try with_reducible rfl
    rotate_left
    · simp only [Act.put, List.setIfInBounds_toArray, List.set_cons_zero, List.set_cons_succ, i64_w, i32_w]
      rfl
    refine pure_ (i := 13) (N := some 26) (v := ?_) (a' := ?_) #[true, true, true, true, true, true, true, true, true, true, true, true, true, true, false, false, false, false] rfl rfl (by kernel_rfl) (fun _ _ _ h => h) (Or.inl ⟨by rfl, ?_⟩) ?_ ?_
    rotate_left
    · intro w'
      go_simp
      try with_reducible rfl
    rotate_left
    · simp only [Act.put, List.setIfInBounds_toArray, List.set_cons_zero, List.set_cons_succ, i64_w, i32_w]
      rfl
    refine pure_ (i := 14) (N := some 27) (v := ?_) (a' := ?_) #[true, true, true, true, true, true, true, true, true, true, true, true, true, true, true, false, false, false] rfl rfl (by kernel_rfl) (fun _ _ _ h => h) (Or.inl ⟨by rfl, ?_⟩) ?_ ?_
    rotate_left
    · intro w'
      go_simp
      try with_reducible rfl
    rotate_left
    · simp only [Act.put, List.setIfInBounds_toArray, List.set_cons_zero, List.set_cons_succ, i64_w, i32_w]
      rfl
    refine pure_ (i := 15) (N := some 28) (v := ?_) (a' := ?_) #[true, true, true, true, true, true, true, true, true, true, true, true, true, true, true, true, false, false] rfl rfl (by kernel_rfl) (fun _ _ _ h => h) (Or.inl ⟨by rfl, ?_⟩) ?_ ?_
    rotate_left
    · intro w'
      go_simp
      try with_reducible rfl
    rotate_left
    · simp only [Act.put, List.setIfInBounds_toArray, List.set_cons_zero, List.set_cons_succ, i64_w, i32_w]
      rfl
    refine pure_ (i := 16) (N := some 29) (v := ?_) (a' := ?_) #[true, true, true, true, true, true, true, true, true, true, true, true, true, true, true, true, true, false] rfl rfl (by kernel_rfl) (fun _ _ _ h => h) (Or.inl ⟨by rfl, ?_⟩) ?_ ?_
    rotate_left
    · intro w'
      go_simp
      try with_reducible rfl
    rotate_left
    · simp only [Act.put, List.setIfInBounds_toArray, List.set_cons_zero, List.set_cons_succ, i64_w, i32_w]
      rfl
    refine last_ (i := 17) (N := none) #[true, true, true, true, true, true, true, true, true, true, true, true, true, true, true, true, true, true] rfl rfl (by kernel_rfl) (by decide) (fun K hK => ?_)
    rw [if_pos (by rfl)]
    go_simp
    refine hK.out _ _ ?_
    clear hK K
    refine done_ (by kernel_rfl) ?_
    go_wp2_with fail
    have h3 : StkAt (W.setCell ⟨g, 13, none⟩ (.bool gt)).drew base g D fx ⟨t.T, t.F, gt⟩ (.slice P t.T.length kT) vF' := stk_drewN (stk_bad HS2.out _) 1
    have z0 := blk_drew (blk_far HX0.out (p := ⟨g, 13, none⟩) (by show w.heap.size ≠ g; omega) (.bool gt))
    have z1 := blk_drew (blk_far HX1.out (p := ⟨g, 13, none⟩) (by show w.heap.size + 1 ≠ g; omega) (.bool gt))
    have m3 : Mv g w (W.setCell ⟨g, 13, none⟩ (.bool gt)).drew vT vF _ vF' := (HM.out.set 13 (.bool gt)).drewN 1
    have q1 : TypesR (W.setCell ⟨g, 13, none⟩ (.bool gt)).drew base _ _ _ := Kd.R_drewN (Kd.R_far HQ1.out (p := ⟨g, 13, none⟩) (fun k hk => hk.1) (.bool gt)) 1
    have q2 : TypesR (W.setCell ⟨g, 13, none⟩ (.bool gt)).drew base _ _ _ := Kd.R_drewN (Kd.R_far HQ2.out (p := ⟨g, 13, none⟩) (fun k hk => hk.1) (.bool gt)) 1
    clear c11 c13 f11 f13 y0
    generalize (W.setCell ⟨g, 13, none⟩ (.bool gt)).drew = W3 at h3 z0 z1 m3 q1 q2 ⊢
    have c11 := (blk_cell h3.1 11).trans (stk_11 h3.2.1 _ _ _)
    have f11 := blk_frozen h3.1 11
    have y0 := (blk_cell z1 3).trans rfl
    have hcap : s.top.f2 ≤ (kT : Int) := by have := (Kd.R_reads' h3.2.2.2.2.1).2.1; omega
    have hmin : (if s.top.f2 < (t.T.length : Int) then s.top.f2 else (t.T.length : Int)) = s.top.f2 := by split <;> omega
    have HS4 := Lib.hid (stk_take (h := s.top.f2.toNat) h3 (by show s.top.f2.toNat ≤ t.T.length; omega))
    have HQ1b := Lib.hid q1; have HQ2b := Lib.hid q2; clear q1 q2
    have HS3 := Lib.hid h3; have HZ0 := Lib.hid z0; have HZ1 := Lib.hid z1; have HM3 := Lib.hid m3
    clear h3 z0 z1 m3
    refine start_ (n := 17) (S := fun w' => w'.cell? ⟨g, 11, none⟩ = some (.slice P t.T.length kT) ∧ w'.cell? ⟨w.heap.size + 1, 3, none⟩ = some (.int .i64 s.top.f2)) (ds := [16]) #[false, false, false, false, false, false, false, false, false, false, false, false, false, false, false, false, false] (by kernel_rfl) rfl rfl ⟨c11, y0⟩ (fun hHeld => ?_)
    refine pure_ (i := 0) (N := some 30) (v := ?_) (a' := ?_) #[true, false, false, false, false, false, false, false, false, false, false, false, false, false, false, false, false] rfl rfl (by kernel_rfl) (fun _ _ _ h => h) (Or.inl ⟨by rfl, ?_⟩) ?_ ?_
    rotate_left
    · intro w'
      go_simp
      try with_reducible rfl
    rotate_left
    · simp only [Act.put, List.setIfInBounds_toArray, List.set_cons_zero, List.set_cons_succ, i64_w, i32_w]
      rfl
    refine pure_ (i := 1) (N := some 31) (v := ?_) (a' := ?_) #[true, true, false, false, false, false, false, false, false, false, false, false, false, false, false, false, false] rfl rfl (by kernel_rfl) (fun _ _ _ h => h) (Or.inl ⟨by rfl, ?_⟩) ?_ ?_
    rotate_left
    · intro w'
      go_simp
      try with_reducible rfl
    rotate_left
    · simp only [Act.put, List.setIfInBounds_toArray, List.set_cons_zero, List.set_cons_succ, i64_w, i32_w]
      rfl
    refine pure_ (i := 2) (N := some 32) (v := ?_) (a' := ?_) #[true, true, true, false, false, false, false, false, false, false, false, false, false, false, false, false, false] rfl rfl (by kernel_rfl) (fun _ _ _ h => h) (Or.inl ⟨by rfl, ?_⟩) ?_ ?_
    rotate_left
    · intro w'
      go_simp
      try with_reducible rfl
    rotate_left
    · simp only [Act.put, List.setIfInBounds_toArray, List.set_cons_zero, List.set_cons_succ, i64_w, i32_w]
      rfl
    refine pure_ (i := 3) (N := some 33) (v := ?_) (a' := ?_) #[true, true, true, true, false, false, false, false, false, false, false, false, false, false, false, false, false] rfl rfl (by kernel_rfl) (fun _ _ _ h => h) (Or.inl ⟨by rfl, ?_⟩) ?_ ?_
    rotate_left
    · intro w'
      go_simp
      try with_reducible rfl
    rotate_left
    · simp only [Act.put, List.setIfInBounds_toArray, List.set_cons_zero, List.set_cons_succ, i64_w, i32_w]
      rfl
    refine take_ (i := 4) (N := some 34) (v := ?_) (a' := ?_) #[true, true, true, true, true, false, false, false, false, false, false, false, false, false, false, false, false] rfl rfl (by kernel_rfl) (fun _ _ _ h => h) (Or.inl ⟨by rfl, ?_⟩) hHeld ?_ ?_
    rotate_left
    · rintro w' ⟨s0, s1⟩
      go_simp
      try with_reducible rfl
    rotate_left
    · simp only [Act.put, List.setIfInBounds_toArray, List.set_cons_zero, List.set_cons_succ, i64_w, i32_w]
      rfl
    refine pure_ (i := 5) (N := some 35) (v := ?_) (a' := ?_) #[true, true, true, true, true, true, false, false, false, false, false, false, false, false, false, false, false] rfl rfl (by kernel_rfl) (fun _ _ _ h => h) (Or.inl ⟨by rfl, ?_⟩) ?_ ?_
    rotate_left
    · intro w'
      go_simp
      try with_reducible rfl
    rotate_left
    · simp only [Act.put, List.setIfInBounds_toArray, List.set_cons_zero, List.set_cons_succ, i64_w, i32_w]
      rfl
    refine pure_ (i := 6) (N := some 36) (v := ?_) (a' := ?_) #[true, true, true, true, true, true, true, false, false, false, false, false, false, false, false, false, false] rfl rfl (by kernel_rfl) (fun _ _ _ h => h) (Or.inl ⟨by rfl, ?_⟩) ?_ ?_
    rotate_left
    · intro w'
      go_simp
      try with_reducible rfl
    rotate_left
    · simp only [Act.put, List.setIfInBounds_toArray, List.set_cons_zero, List.set_cons_succ, i64_w, i32_w]
      rfl
    refine pure_ (i := 7) (N := some 37) (v := ?_) (a' := ?_) #[true, true, true, true, true, true, true, true, false, false, false, false, false, false, false, false, false] rfl rfl (by kernel_rfl) (fun _ _ _ h => h) (Or.inl ⟨by rfl, ?_⟩) ?_ ?_
    rotate_left
    · intro w'
      go_simp
      try with_reducible rfl
    rotate_left
    · simp only [Act.put, List.setIfInBounds_toArray, List.set_cons_zero, List.set_cons_succ, i64_w, i32_w]
      rfl
    refine take_ (i := 8) (N := some 38) (v := ?_) (a' := ?_) #[true, true, true, true, true, true, true, true, true, false, false, false, false, false, false, false, false] rfl rfl (by kernel_rfl) (fun _ _ _ h => h) (Or.inl ⟨by rfl, ?_⟩) hHeld ?_ ?_
    rotate_left
    · rintro w' ⟨s0, s1⟩
      go_simp
      try with_reducible rfl
    rotate_left
    · simp only [Act.put, List.setIfInBounds_toArray, List.set_cons_zero, List.set_cons_succ, i64_w, i32_w]
      rfl
    refine pure_ (i := 9) (N := some 39) (v := ?_) (a' := ?_) #[true, true, true, true, true, true, true, true, true, true, false, false, false, false, false, false, false] rfl rfl (by kernel_rfl) (fun _ _ _ h => h) (Or.inl ⟨by rfl, ?_⟩) ?_ ?_
    rotate_left
    · intro w'
      go_simp
      try with_reducible rfl
    rotate_left
    · simp only [Act.put, List.setIfInBounds_toArray, List.set_cons_zero, List.set_cons_succ, i64_w, i32_w]
      rfl
    refine pure_ (i := 10) (N := some 40) (v := ?_) (a' := ?_) #[true, true, true, true, true, true, true, true, true, true, true, false, false, false, false, false, false] rfl rfl (by kernel_rfl) (fun _ _ _ h => h) (Or.inl ⟨by rfl, ?_⟩) ?_ ?_
    rotate_left
    · intro w'
      go_simp
      try with_reducible rfl
    rotate_left
    · simp only [Act.put, List.setIfInBounds_toArray, List.set_cons_zero, List.set_cons_succ, i64_w, i32_w]
      rfl
    refine take_ (i := 11) (N := some 41) (v := ?_) (a' := ?_) #[true, true, true, true, true, true, true, true, true, true, true, true, false, false, false, false, false] rfl rfl (by kernel_rfl) (fun _ _ _ h => h) (Or.inl ⟨by rfl, ?_⟩) hHeld ?_ ?_
    rotate_left
    · rintro w' ⟨s0, s1⟩
      go_simp
      try with_reducible rfl
    rotate_left
    · simp only [Act.put, List.setIfInBounds_toArray, List.set_cons_zero, List.set_cons_succ, i64_w, i32_w]
      rfl
    refine pure_ (i := 12) (N := some 42) (v := ?_) (a' := ?_) #[true, true, true, true, true, true, true, true, true, true, true, true, true, false, false, false, false] rfl rfl (by kernel_rfl) (fun _ _ _ h => h) (Or.inl ⟨by rfl, ?_⟩) ?_ ?_
    rotate_left
    · intro w'
      go_simp
      try with_reducible rfl
    rotate_left
    · simp only [Act.put, List.setIfInBounds_toArray, List.set_cons_zero, List.set_cons_succ, i64_w, i32_w]
      rfl
    refine pure_ (i := 13) (N := some 43) (v := ?_) (a' := ?_) #[true, true, true, true, true, true, true, true, true, true, true, true, true, true, false, false, false] rfl rfl (by kernel_rfl) (fun _ _ _ h => h) (Or.inl ⟨by rfl, ?_⟩) ?_ ?_
    rotate_left
    · intro w'
      go_simp
      try with_reducible rfl
    rotate_left
    · simp only [Act.put, List.setIfInBounds_toArray, List.set_cons_zero, List.set_cons_succ, i64_w, i32_w]
      rfl
    refine pure_ (i := 14) (N := some 44) (v := ?_) (a' := ?_) #[true, true, true, true, true, true, true, true, true, true, true, true, true, true, true, false, false] rfl rfl (by kernel_rfl) (fun _ _ _ h => h) (Or.inl ⟨by rfl, ?_⟩) ?_ ?_
    rotate_left
    · intro w'
      go_simp
      try with_reducible rfl
    rotate_left
    · simp only [Act.put, List.setIfInBounds_toArray, List.set_cons_zero, List.set_cons_succ, i64_w, i32_w]
      rfl
    refine pure_ (i := 15) (N := some 45) (v := ?_) (a' := ?_) #[true, true, true, true, true, true, true, true, true, true, true, true, true, true, true, true, false] rfl rfl (by kernel_rfl) (fun _ _ _ h => h) (Or.inl ⟨by rfl, ?_⟩) ?_ ?_
    rotate_left
    · intro w'
      go_simp
      try with_reducible rfl
    rotate_left
    · simp only [Act.put, List.setIfInBounds_toArray, List.set_cons_zero, List.set_cons_succ, i64_w, i32_w]
      rfl
    refine last_ (i := 16) (N := none) #[true, true, true, true, true, true, true, true, true, true, true, true, true, true, true, true, true] rfl rfl (by kernel_rfl) (by decide) (fun K hK => ?_)
    rw [if_pos (by rfl)]
    go_simp
    refine hK.out _ _ ?_
    clear hK K
    refine done_ (by kernel_rfl) ?_
    have h4 := HS4.out
    have z0 := blk_drew (blk_far HZ0.out (p := ⟨g, 11, none⟩) (by show w.heap.size ≠ g; omega) (.slice P s.top.f2.toNat kT))
    have z1 := blk_drew (blk_far HZ1.out (p := ⟨g, 11, none⟩) (by show w.heap.size + 1 ≠ g; omega) (.slice P s.top.f2.toNat kT))
    have m4 : Mv g w (W3.setCell ⟨g, 11, none⟩ (.slice P s.top.f2.toNat kT)).drew vT vF (.slice P s.top.f2.toNat kT) vF' := ((HM3.out.set 11 (.slice P s.top.f2.toNat kT)).drewN 1).same_T (by cases P <;> rfl)
    have q1 : TypesR (W3.setCell ⟨g, 11, none⟩ (.slice P s.top.f2.toNat kT)).drew base (fun k => k ≠ g ∧ some k ≠ (Value.slice P s.top.f2.toNat kT).ownBlock ∧ some k ≠ vF'.ownBlock) _ _ := Kd.R_mono (Kd.R_drewN (Kd.R_far HQ1b.out (p := ⟨g, 11, none⟩) (fun k hk => hk.1) (.slice P s.top.f2.toNat kT)) 1) (fun k hk => ⟨hk.1, by cases P <;> exact hk.2.1, hk.2.2⟩)
    have q2 : TypesR (W3.setCell ⟨g, 11, none⟩ (.slice P s.top.f2.toNat kT)).drew base (fun k => k ≠ g ∧ some k ≠ (Value.slice P s.top.f2.toNat kT).ownBlock ∧ some k ≠ vF'.ownBlock) _ _ := Kd.R_mono (Kd.R_drewN (Kd.R_far HQ2b.out (p := ⟨g, 11, none⟩) (fun k hk => hk.1) (.slice P s.top.f2.toNat kT)) 1) (fun k hk => ⟨hk.1, by cases P <;> exact hk.2.1, hk.2.2⟩)
    clear c11 f11 y0
    generalize (W3.setCell ⟨g, 11, none⟩ (.slice P s.top.f2.toNat kT)).drew = W4 at h4 z0 z1 m4 q1 q2 ⊢
    have y0 := (blk_cell z1 0).trans rfl
    have y1 := (blk_cell z1 1).trans rfl
    have y2 := (blk_cell z1 2).trans rfl
    have y3 := (blk_cell z1 3).trans rfl
    have y4 := (blk_cell z1 4).trans rfl
    have x0 := (blk_cell z0 0).trans rfl
    have x1 := (blk_cell z0 1).trans rfl
    have x2 := (blk_cell z0 2).trans rfl
    have x3 := (blk_cell z0 3).trans rfl
    have x4 := (blk_cell z0 4).trans rfl
    have f0 := blk_frozen z0 0
    have f1 := blk_frozen z0 1
    have f2 := blk_frozen z0 2
    have f3 := blk_frozen z0 3
    have f4 := blk_frozen z0 4
    have HS5 := Lib.hid h4; have HM5 := Lib.hid m4; have HZ5 := Lib.hid z0; have HQ1c := Lib.hid q1; have HQ2c := Lib.hid q2
    clear h4 z0 z1 m4 q1 q2 hmin
    go_wp2_with fail
    refine bodyPost_ret (v := .agg #[.int .i64 s.top.f0, .slice A1 s.top.f1.f0.length c1, .slice A2 s.top.f1.f1.length c2, .int .i64 s.top.f2, .bool s.top.f3]) (by have hb := blk_set (blk_set (blk_set (blk_set (blk_set HZ5.out 0 (.int .i64 s.top.f0)) 1 (.slice A1 s.top.f1.f0.length c1)) 2 (.slice A2 s.top.f1.f1.length c2)) 3 (.int .i64 s.top.f2)) 4 (.bool s.top.f3); have e0 := (blk_cell hb 0).trans rfl; have e1 := (blk_cell hb 1).trans rfl; have e2 := (blk_cell hb 2).trans rfl; have e3 := (blk_cell hb 3).trans rfl; have e4 := (blk_cell hb 4).trans rfl; generalize ((((W4.setCell ⟨w.heap.size, 0, none⟩ (.int .i64 s.top.f0)).setCell ⟨w.heap.size, 1, none⟩ (.slice A1 s.top.f1.f0.length c1)).setCell ⟨w.heap.size, 2, none⟩ (.slice A2 s.top.f1.f1.length c2)).setCell ⟨w.heap.size, 3, none⟩ (.int .i64 s.top.f2)).setCell ⟨w.heap.size, 4, none⟩ (.bool s.top.f3) = W5 at e0 e1 e2 e3 e4 ⊢; clear hb; simp [results, Tryz.results147, go_sem, e0, e1, e2, e3, e4] <;> rfl) rfl ?_
    rw [← hvF]
    refine ⟨.slice A1 s.top.f1.f0.length c1, .slice A2 s.top.f1.f1.length c2, rfl, _, vF', ((((HM5.out.set_new (Nat.le_refl _) _).set_new (Nat.le_refl _) _).set_new (Nat.le_refl _) _).set_new (Nat.le_refl _) _).set_new (Nat.le_refl _) _, ?_, row_move HQ1c.out (fun k hk => heap_set5 W4 w.heap.size k hk _ _ _ _ _) HZ5.out (by decide), row_move HQ2c.out (fun k hk => heap_set5 W4 w.heap.size k hk _ _ _ _ _) HZ5.out (by decide)⟩
    rw [HLV.out, ← HBB.out, ← HGT.out]
    rw [Bool.false_or]
    exact stk_move HS5.out (by simp only [World.setCell]; simp) (fun k hk _ => heap_set5 W4 w.heap.size k hk _ _ _ _ _) ⟨_, _, HZ5.out, by decide, by decide⟩ HXF.out
end Go.Proofs.YthehihjcpiadgaaGreat
end
section
namespace Go.Proofs.YthehihjcpiadgaaGreat
open Go.RowKit Go.Proofs.YthehihjcpiadgaaGreatW.PrintWords Go.Proofs.YthehihjcpiadgaaGreatW.PrintLast
set_option linter.unusedSimpArgs false
set_option linter.unusedVariables false
/-- The frames have turned: the last one is over. -/
theorem stk_less {w : World} {base g gf n k j : Nat} {D : Nat → Prop} {fx : List Value} {s : Sp.St} {vT : Value} (hS : StkAt w base g D fx s vT (.slice (some ⟨gf, 0, none⟩) n k)) (hh : j ≤ s.F.length) : StkAt (w.setCell ⟨g, 12, none⟩ (.slice (some ⟨gf, 0, none⟩) j k)).drew base g D fx ⟨s.T, s.F.take j, s.bad⟩ vT (.slice (some ⟨gf, 0, none⟩) j k) := by
  obtain ⟨hg0, hfx, hb, hDg, hT, hF, hFD, hD⟩ := hS
  have hF' : FramesR w base (fun k => k ≠ g ∧ some k ≠ vT.ownBlock) (.slice (some ⟨gf, 0, none⟩) j k) (s.F.take j) := Kd.R_take hF hh
  have hh2 : StkAt (w.setCell ⟨g, 12, none⟩ (.slice (some ⟨gf, 0, none⟩) j k)) base g D fx ⟨s.T, s.F.take j, s.bad⟩ vT (.slice (some ⟨gf, 0, none⟩) j k) := by
   refine ⟨?_, hfx, hb, hDg, Kd.R_far (Kd.R_mono hT (fun k hk => hk)) (fun k hk => hk.1) _, Kd.R_far hF' (fun k hk => hk.1) _, fun k hk => hFD k hk, fun k hk => ?_⟩
   · have := blk_set hg0 12 (.slice (some ⟨gf, 0, none⟩) j k)
     rwa [stk_set12 hfx] at this
   · have := hD k hk
     simp only [World.setCell]; simpa using this
  exact stk_drewN hh2 1
theorem Mv.same_F {g : Nat} {a b : World} {t f t1 f1 f2 : Value} (h : Mv g a b t f t1 f1) (e : f2.ownBlock = f1.ownBlock) : Mv g a b t f t1 f2 := ⟨h.os, h.tape, h.output, h.size, h.block, h.atT, fun k hk => h.atF k (e ▸ hk)⟩
set_option maxRecDepth 100000 in
set_option maxHeartbeats 8000000 in
theorem stacks_end (w : World) (base g : Nat) (D : Nat → Prop) (fx : List Value) (s : Sp.St) (vT vF : Value) (h : StkAt w base g D fx s vT vF) (hI : Sp.SInv s) (hl : s.leave.T.length + s.top.f1.f1.length ≤ 1000000) : Calls Tryz.prog 93 #[.pointer (some ⟨g, 0, none⟩)] w (StkEnd g base D fx w vT vF (.tuple #[]) s.end_) := by
  have HLV := Lib.hid (stacks_leave w base g D fx s vT vF h hI (by omega))
  have HL := Lib.hid hl
  have HFP := Lib.hid hI.1
  obtain ⟨j, hj⟩ : ∃ j, s.F.length = j + 1 := ⟨s.F.length - 1, by have := hI.1; omega⟩
  have HJ := Lib.hid hj
  have HLF := Lib.hid (show s.leave.F.length = s.F.length by unfold Sp.St.leave; rw [pop_F])
  have hjl : (j : Int) ≤ 100000 := by have := hI.2.1; omega
  clear h hI hl hj
  by_cases hm : 0 < j
  · have hj0 : (0 : Int) ≤ (j : Int) := by omega
    have hj1 : (1 : Int) < (j : Int) + 1 := by omega
    have hj2 : decide ((1 : Int) < (j : Int) + 1) = true := decide_eq_true hj1
    have hj3 : (0 : Int) < (j : Int) := by omega
    have hj4 : decide ((0 : Int) < (j : Int)) = true := decide_eq_true hj3
    by_cases h4 : s.top.f0 = 4
    · have H4B := Lib.hid h4; have g4 : (s.top.f0 == 4) = true := by simpa using h4
      clear h4
      by_cases he : s.top.f1.f0 = s.top.f1.f1
      · have HEB := Lib.hid he; have ge : decide (s.top.f1.f0 = s.top.f1.f1) = true := decide_eq_true he
        clear he
        go_enter Tryz.func93, Tryz.ntmps93
        go_wp2_with (first | ((go_at_call 147); (with_reducible refine HLV.out.mono ?_); rintro e W ⟨v1, v2, rfl, vT', vF', m, hS, q1, q2⟩; obtain ⟨A1, c1, rfl⟩ := Kd.R_slice q1; obtain ⟨A2, c2, rfl⟩ := Kd.R_slice q2; have HC1 := Lib.hid (Kd.R_reads' q1).2.2; have HC2 := Lib.hid (Kd.R_reads' q2).2.2; obtain ⟨gf, cap, rfl, hgfg, hgfb, hgfD⟩ := stk_frames hS (by rw [HLF.out]; exact HFP.out); rw [HLF.out, HJ.out] at hS q1 q2; have c12 := (blk_cell hS.1 12).trans (stk_12 hS.2.1 _ _ _); have f12 := blk_frozen hS.1 12; have f13 := blk_frozen hS.1 13; have c13 := (blk_cell hS.1 13).trans (stk_13 hS.2.1 _ _ _); have glt := blk_lt hS.1; have HM := Lib.hid m; have HS := Lib.hid hS; have HQ2 := Lib.hid q2; clear m hS q1 q2) | ((go_at_call 148); (with_reducible refine (slices_Equal A1 A2 c1 c2 _ _ _ (Kd.C_alloc HC1.out _) (Kd.C_alloc HC2.out _)).mono ?_); rintro e w' ⟨rfl, n, rfl⟩))
        have h3 : StkAt ((W.alloc (.cells #[.int .i64 s.top.f0, .slice A1 s.top.f1.f0.length c1, .slice A2 s.top.f1.f1.length c2, .int .i64 s.top.f2, .bool s.top.f3] 113)).drewN n) base g D fx ⟨s.leave.T, s.leave.F, s.leave.bad⟩ vT' (.slice (some ⟨gf, 0, none⟩) (j + 1) cap) := stk_drewN (stk_alloc HS.out (.cells #[.int .i64 s.top.f0, .slice A1 s.top.f1.f0.length c1, .slice A2 s.top.f1.f1.length c2, .int .i64 s.top.f2, .bool s.top.f3] 113)) n
        have m3 := ((HM.out.alloc (.cells #[.int .i64 s.top.f0, .slice A1 s.top.f1.f0.length c1, .slice A2 s.top.f1.f1.length c2, .int .i64 s.top.f2, .bool s.top.f3] 113)).drewN n)
        have z3 := (blk_drewN (heap_alloc_new W (.cells #[.int .i64 s.top.f0, .slice A1 s.top.f1.f0.length c1, .slice A2 s.top.f1.f1.length c2, .int .i64 s.top.f2, .bool s.top.f3] 113)) n)
        have q3 : TypesR ((W.alloc (.cells #[.int .i64 s.top.f0, .slice A1 s.top.f1.f0.length c1, .slice A2 s.top.f1.f1.length c2, .int .i64 s.top.f2, .bool s.top.f3] 113)).drewN n) base _ _ _ := Kd.R_drewN (Kd.R_alloc HQ2.out (.cells #[.int .i64 s.top.f0, .slice A1 s.top.f1.f0.length c1, .slice A2 s.top.f1.f1.length c2, .int .i64 s.top.f2, .bool s.top.f3] 113)) n
        clear c12 c13 f12 f13
        generalize ((W.alloc (.cells #[.int .i64 s.top.f0, .slice A1 s.top.f1.f0.length c1, .slice A2 s.top.f1.f1.length c2, .int .i64 s.top.f2, .bool s.top.f3] 113)).drewN n) = W3 at h3 m3 z3 q3 ⊢
        have y2 := (blk_cell z3 2).trans rfl
        have c12 := (blk_cell h3.1 12).trans (stk_12 h3.2.1 _ _ _)
        have f12 := blk_frozen h3.1 12
        have hwlt := blk_lt z3
        have hcap : (j : Int) ≤ (cap : Int) := by have := (Kd.R_reads' h3.2.2.2.2.2.1).2.1; omega
        have h4 := stk_less (j := j) h3 (by show j ≤ s.leave.F.length; have := HLF.out; have := HJ.out; omega)
        have m4 : Mv g w (W3.setCell ⟨g, 12, none⟩ (.slice (some ⟨gf, 0, none⟩) j cap)).drew vT vF vT' (.slice (some ⟨gf, 0, none⟩) j cap) := ((m3.set 12 (.slice (some ⟨gf, 0, none⟩) j cap)).drewN 1).same_F rfl
        have z4 := blk_drew (blk_far z3 (p := ⟨g, 12, none⟩) (by show W.heap.size ≠ g; omega) (.slice (some ⟨gf, 0, none⟩) j cap))
        have q4 : TypesR (W3.setCell ⟨g, 12, none⟩ (.slice (some ⟨gf, 0, none⟩) j cap)).drew base (fun k => k ≠ g ∧ some k ≠ vT'.ownBlock ∧ some k ≠ (Value.slice (some ⟨gf, 0, none⟩) j cap).ownBlock) _ _ := Kd.R_drewN (Kd.R_far q3 (p := ⟨g, 12, none⟩) (fun k hk => hk.1) (.slice (some ⟨gf, 0, none⟩) j cap)) 1
        have H4 := Lib.hid h4; have M4 := Lib.hid m4; have Z4 := Lib.hid z4; have Q4 := Lib.hid q4
        clear h3 m3 z3 q3 y2 h4 m4 z4 q4
        have hw0 : wrap64 (j : Int) = (j : Int) := Tx.w64 (by omega) (by omega)
        have hwi : IntKind.i64.wrap (j : Int) = (j : Int) := (wi64 _).trans hw0
        refine start_ (n := 15) (S := fun w' => w'.cell? ⟨g, 12, none⟩ = some (.slice (some ⟨gf, 0, none⟩) (j + 1) cap)) (ds := [14]) #[false, false, false, false, false, false, false, false, false, false, false, false, false, false, false] (by kernel_rfl) rfl rfl c12 (fun hHeld => ?_)
        refine pure_ (i := 0) (N := some 27) (v := ?_) (a' := ?_) #[true, false, false, false, false, false, false, false, false, false, false, false, false, false, false] rfl rfl (by kernel_rfl) (fun _ _ _ h => h) (Or.inl ⟨by rfl, ?_⟩) ?_ ?_
        rotate_left
        · intro w'
          go_simp
          try with_reducible rfl
        rotate_left
        · simp only [Act.put, List.setIfInBounds_toArray, List.set_cons_zero, List.set_cons_succ, i64_w, i32_w]
          rfl
        refine pure_ (i := 1) (N := some 28) (v := ?_) (a' := ?_) #[true, true, false, false, false, false, false, false, false, false, false, false, false, false, false] rfl rfl (by kernel_rfl) (fun _ _ _ h => h) (Or.inl ⟨by rfl, ?_⟩) ?_ ?_
        rotate_left
        · intro w'
          go_simp
          try with_reducible rfl
        rotate_left
        · simp only [Act.put, List.setIfInBounds_toArray, List.set_cons_zero, List.set_cons_succ, i64_w, i32_w]
          rfl
        refine pure_ (i := 2) (N := some 29) (v := ?_) (a' := ?_) #[true, true, true, false, false, false, false, false, false, false, false, false, false, false, false] rfl rfl (by kernel_rfl) (fun _ _ _ h => h) (Or.inl ⟨by rfl, ?_⟩) ?_ ?_
        rotate_left
        · intro w'
          go_simp
          try with_reducible rfl
        rotate_left
        · simp only [Act.put, List.setIfInBounds_toArray, List.set_cons_zero, List.set_cons_succ, i64_w, i32_w]
          rfl
        refine pure_ (i := 3) (N := some 30) (v := ?_) (a' := ?_) #[true, true, true, true, false, false, false, false, false, false, false, false, false, false, false] rfl rfl (by kernel_rfl) (fun _ _ _ h => h) (Or.inl ⟨by rfl, ?_⟩) ?_ ?_
        rotate_left
        · intro w'
          go_simp
          try with_reducible rfl
        rotate_left
        · simp only [Act.put, List.setIfInBounds_toArray, List.set_cons_zero, List.set_cons_succ, i64_w, i32_w]
          rfl
        refine take_ (i := 4) (N := some 31) (v := ?_) (a' := ?_) #[true, true, true, true, true, false, false, false, false, false, false, false, false, false, false] rfl rfl (by kernel_rfl) (fun _ _ _ h => h) (Or.inl ⟨by rfl, ?_⟩) hHeld ?_ ?_
        rotate_left
        · intro w' s0
          go_simp
          try with_reducible rfl
        rotate_left
        · simp only [Act.put, List.setIfInBounds_toArray, List.set_cons_zero, List.set_cons_succ, i64_w, i32_w]
          rfl
        refine pure_ (i := 5) (N := some 32) (v := ?_) (a' := ?_) #[true, true, true, true, true, true, false, false, false, false, false, false, false, false, false] rfl rfl (by kernel_rfl) (fun _ _ _ h => h) (Or.inl ⟨by rfl, ?_⟩) ?_ ?_
        rotate_left
        · intro w'
          go_simp
          try with_reducible rfl
        rotate_left
        · simp only [Act.put, List.setIfInBounds_toArray, List.set_cons_zero, List.set_cons_succ, i64_w, i32_w]
          rfl
        refine pure_ (i := 6) (N := some 33) (v := ?_) (a' := ?_) #[true, true, true, true, true, true, true, false, false, false, false, false, false, false, false] rfl rfl (by kernel_rfl) (fun _ _ _ h => h) (Or.inl ⟨by rfl, ?_⟩) ?_ ?_
        rotate_left
        · intro w'
          go_simp
          try with_reducible rfl
        rotate_left
        · simp only [Act.put, List.setIfInBounds_toArray, List.set_cons_zero, List.set_cons_succ, i64_w, i32_w]
          rfl
        refine pure_ (i := 7) (N := some 34) (v := ?_) (a' := ?_) #[true, true, true, true, true, true, true, true, false, false, false, false, false, false, false] rfl rfl (by kernel_rfl) (fun _ _ _ h => h) (Or.inl ⟨by rfl, ?_⟩) ?_ ?_
        rotate_left
        · intro w'
          go_simp
          try with_reducible rfl
        rotate_left
        · simp only [Act.put, List.setIfInBounds_toArray, List.set_cons_zero, List.set_cons_succ, i64_w, i32_w]
          rfl
        refine take_ (i := 8) (N := some 35) (v := ?_) (a' := ?_) #[true, true, true, true, true, true, true, true, true, false, false, false, false, false, false] rfl rfl (by kernel_rfl) (fun _ _ _ h => h) (Or.inl ⟨by rfl, ?_⟩) hHeld ?_ ?_
        rotate_left
        · intro w' s0
          go_simp
          try with_reducible rfl
        rotate_left
        · simp only [Act.put, List.setIfInBounds_toArray, List.set_cons_zero, List.set_cons_succ, i64_w, i32_w]
          rfl
        refine pure_ (i := 9) (N := some 36) (v := ?_) (a' := ?_) #[true, true, true, true, true, true, true, true, true, true, false, false, false, false, false] rfl rfl (by kernel_rfl) (fun _ _ _ h => h) (Or.inl ⟨by rfl, ?_⟩) ?_ ?_
        rotate_left
        · intro w'
          go_simp
          try with_reducible rfl
        rotate_left
        · simp only [Act.put, List.setIfInBounds_toArray, List.set_cons_zero, List.set_cons_succ, i64_w, i32_w]
          rfl
        refine pure_ (i := 10) (N := some 37) (v := ?_) (a' := ?_) #[true, true, true, true, true, true, true, true, true, true, true, false, false, false, false] rfl rfl (by kernel_rfl) (fun _ _ _ h => h) (Or.inl ⟨by rfl, ?_⟩) ?_ ?_
        rotate_left
        · intro w'
          go_simp
          try with_reducible rfl
        rotate_left
        · simp only [Act.put, List.setIfInBounds_toArray, List.set_cons_zero, List.set_cons_succ, i64_w, i32_w]
          rfl
        refine pure_ (i := 11) (N := some 38) (v := ?_) (a' := ?_) #[true, true, true, true, true, true, true, true, true, true, true, true, false, false, false] rfl rfl (by kernel_rfl) (fun _ _ _ h => h) (Or.inl ⟨by rfl, ?_⟩) ?_ ?_
        rotate_left
        · intro w'
          go_simp
          try with_reducible rfl
        rotate_left
        · simp only [Act.put, List.setIfInBounds_toArray, List.set_cons_zero, List.set_cons_succ, i64_w, i32_w]
          rfl
        refine pure_ (i := 12) (N := some 39) (v := ?_) (a' := ?_) #[true, true, true, true, true, true, true, true, true, true, true, true, true, false, false] rfl rfl (by kernel_rfl) (fun _ _ _ h => h) (Or.inl ⟨by rfl, ?_⟩) ?_ ?_
        rotate_left
        · intro w'
          go_simp
          try with_reducible rfl
        rotate_left
        · simp only [Act.put, List.setIfInBounds_toArray, List.set_cons_zero, List.set_cons_succ, i64_w, i32_w]
          rfl
        refine pure_ (i := 13) (N := some 40) (v := ?_) (a' := ?_) #[true, true, true, true, true, true, true, true, true, true, true, true, true, true, false] rfl rfl (by kernel_rfl) (fun _ _ _ h => h) (Or.inl ⟨by rfl, ?_⟩) ?_ ?_
        rotate_left
        · intro w'
          go_simp
          try with_reducible rfl
        rotate_left
        · simp only [Act.put, List.setIfInBounds_toArray, List.set_cons_zero, List.set_cons_succ, i64_w, i32_w]
          rfl
        refine last_ (i := 14) (N := none) #[true, true, true, true, true, true, true, true, true, true, true, true, true, true, true] rfl rfl (by kernel_rfl) (by decide) (fun K hK => ?_)
        rw [if_pos (by rfl)]
        go_simp
        refine hK.out _ _ ?_
        clear hK K
        refine done_ (by kernel_rfl) ?_
        clear hw0 hwi
        have h4 := H4.out; have m4 := M4.out; have z4 := Z4.out; have q4 := Q4.out
        clear c12 f12
        generalize (W3.setCell ⟨g, 12, none⟩ (.slice (some ⟨gf, 0, none⟩) j cap)).drew = W4 at h4 m4 z4 q4 ⊢
        have y2 := (blk_cell z4 2).trans rfl
        have HP := Lib.hid (stacks_pushA W4 base g D fx _ vT' _ _ h4 s.top.f1.f1 (arg_row h4 q4) HL.out)
        have M4 := Lib.hid m4
        clear h4 m4 z4 q4
        go_wp2_with (first | ((go_at_call 146); (with_reducible refine HP.out.mono ?_); rintro e w' ⟨rfl, vT2, vF2, m2, h2⟩))
        go_end0
        refine ⟨rfl, vT2, vF2, M4.out.trans m2, ?_⟩
        have e : s.end_ = Sp.St.push ⟨s.leave.T, s.leave.F.take j, s.leave.bad⟩ s.top.f1.f1 := by
          have hf := HLF.out; have hj := HJ.out; have h4 := H4B.out; have he := HEB.out
          unfold Sp.St.end_ Sp.St.err Sp.St.less
          have hm2 : (1 < s.leave.F.length) ↔ True := ⟨fun _ => trivial, fun _ => by omega⟩
          simp [h4, he, hm, hm2, hf, hj]
        rw [e]
        exact h2
      · have HEB := Lib.hid he; have ge : decide (s.top.f1.f0 = s.top.f1.f1) = false := decide_eq_false he
        clear he
        go_enter Tryz.func93, Tryz.ntmps93
        go_wp2_with (first | ((go_at_call 147); (with_reducible refine HLV.out.mono ?_); rintro e W ⟨v1, v2, rfl, vT', vF', m, hS, q1, q2⟩; obtain ⟨A1, c1, rfl⟩ := Kd.R_slice q1; obtain ⟨A2, c2, rfl⟩ := Kd.R_slice q2; have HC1 := Lib.hid (Kd.R_reads' q1).2.2; have HC2 := Lib.hid (Kd.R_reads' q2).2.2; obtain ⟨gf, cap, rfl, hgfg, hgfb, hgfD⟩ := stk_frames hS (by rw [HLF.out]; exact HFP.out); rw [HLF.out, HJ.out] at hS q1 q2; have c12 := (blk_cell hS.1 12).trans (stk_12 hS.2.1 _ _ _); have f12 := blk_frozen hS.1 12; have f13 := blk_frozen hS.1 13; have c13 := (blk_cell hS.1 13).trans (stk_13 hS.2.1 _ _ _); have glt := blk_lt hS.1; have HM := Lib.hid m; have HS := Lib.hid hS; have HQ2 := Lib.hid q2; clear m hS q1 q2) | ((go_at_call 148); (with_reducible refine (slices_Equal A1 A2 c1 c2 _ _ _ (Kd.C_alloc HC1.out _) (Kd.C_alloc HC2.out _)).mono ?_); rintro e w' ⟨rfl, n, rfl⟩))
        have h3 : StkAt (((W.alloc (.cells #[.int .i64 s.top.f0, .slice A1 s.top.f1.f0.length c1, .slice A2 s.top.f1.f1.length c2, .int .i64 s.top.f2, .bool s.top.f3] 113)).drewN n).setCell ⟨g, 13, none⟩ (.bool true)) base g D fx ⟨s.leave.T, s.leave.F, true⟩ vT' (.slice (some ⟨gf, 0, none⟩) (j + 1) cap) := stk_bad (stk_drewN (stk_alloc HS.out (.cells #[.int .i64 s.top.f0, .slice A1 s.top.f1.f0.length c1, .slice A2 s.top.f1.f1.length c2, .int .i64 s.top.f2, .bool s.top.f3] 113)) n) true
        have m3 := (((HM.out.alloc (.cells #[.int .i64 s.top.f0, .slice A1 s.top.f1.f0.length c1, .slice A2 s.top.f1.f1.length c2, .int .i64 s.top.f2, .bool s.top.f3] 113)).drewN n).set 13 (.bool true))
        have z3 := (blk_far (blk_drewN (heap_alloc_new W (.cells #[.int .i64 s.top.f0, .slice A1 s.top.f1.f0.length c1, .slice A2 s.top.f1.f1.length c2, .int .i64 s.top.f2, .bool s.top.f3] 113)) n) (p := ⟨g, 13, none⟩) (by show W.heap.size ≠ g; omega) (.bool true))
        have q3 : TypesR (((W.alloc (.cells #[.int .i64 s.top.f0, .slice A1 s.top.f1.f0.length c1, .slice A2 s.top.f1.f1.length c2, .int .i64 s.top.f2, .bool s.top.f3] 113)).drewN n).setCell ⟨g, 13, none⟩ (.bool true)) base _ _ _ := Kd.R_far (Kd.R_drewN (Kd.R_alloc HQ2.out (.cells #[.int .i64 s.top.f0, .slice A1 s.top.f1.f0.length c1, .slice A2 s.top.f1.f1.length c2, .int .i64 s.top.f2, .bool s.top.f3] 113)) n) (p := ⟨g, 13, none⟩) (fun k hk => hk.1) (.bool true)
        clear c12 c13 f12 f13
        generalize (((W.alloc (.cells #[.int .i64 s.top.f0, .slice A1 s.top.f1.f0.length c1, .slice A2 s.top.f1.f1.length c2, .int .i64 s.top.f2, .bool s.top.f3] 113)).drewN n).setCell ⟨g, 13, none⟩ (.bool true)) = W3 at h3 m3 z3 q3 ⊢
        have y2 := (blk_cell z3 2).trans rfl
        have c12 := (blk_cell h3.1 12).trans (stk_12 h3.2.1 _ _ _)
        have f12 := blk_frozen h3.1 12
        have hwlt := blk_lt z3
        have hcap : (j : Int) ≤ (cap : Int) := by have := (Kd.R_reads' h3.2.2.2.2.2.1).2.1; omega
        have h4 := stk_less (j := j) h3 (by show j ≤ s.leave.F.length; have := HLF.out; have := HJ.out; omega)
        have m4 : Mv g w (W3.setCell ⟨g, 12, none⟩ (.slice (some ⟨gf, 0, none⟩) j cap)).drew vT vF vT' (.slice (some ⟨gf, 0, none⟩) j cap) := ((m3.set 12 (.slice (some ⟨gf, 0, none⟩) j cap)).drewN 1).same_F rfl
        have z4 := blk_drew (blk_far z3 (p := ⟨g, 12, none⟩) (by show W.heap.size ≠ g; omega) (.slice (some ⟨gf, 0, none⟩) j cap))
        have q4 : TypesR (W3.setCell ⟨g, 12, none⟩ (.slice (some ⟨gf, 0, none⟩) j cap)).drew base (fun k => k ≠ g ∧ some k ≠ vT'.ownBlock ∧ some k ≠ (Value.slice (some ⟨gf, 0, none⟩) j cap).ownBlock) _ _ := Kd.R_drewN (Kd.R_far q3 (p := ⟨g, 12, none⟩) (fun k hk => hk.1) (.slice (some ⟨gf, 0, none⟩) j cap)) 1
        have H4 := Lib.hid h4; have M4 := Lib.hid m4; have Z4 := Lib.hid z4; have Q4 := Lib.hid q4
        clear h3 m3 z3 q3 y2 h4 m4 z4 q4
        have hw0 : wrap64 (j : Int) = (j : Int) := Tx.w64 (by omega) (by omega)
        have hwi : IntKind.i64.wrap (j : Int) = (j : Int) := (wi64 _).trans hw0
        refine start_ (n := 15) (S := fun w' => w'.cell? ⟨g, 12, none⟩ = some (.slice (some ⟨gf, 0, none⟩) (j + 1) cap)) (ds := [14]) #[false, false, false, false, false, false, false, false, false, false, false, false, false, false, false] (by kernel_rfl) rfl rfl c12 (fun hHeld => ?_)
        refine pure_ (i := 0) (N := some 27) (v := ?_) (a' := ?_) #[true, false, false, false, false, false, false, false, false, false, false, false, false, false, false] rfl rfl (by kernel_rfl) (fun _ _ _ h => h) (Or.inl ⟨by rfl, ?_⟩) ?_ ?_
        rotate_left
        · intro w'
          go_simp
          try with_reducible rfl
        rotate_left
        · simp only [Act.put, List.setIfInBounds_toArray, List.set_cons_zero, List.set_cons_succ, i64_w, i32_w]
          rfl
        refine pure_ (i := 1) (N := some 28) (v := ?_) (a' := ?_) #[true, true, false, false, false, false, false, false, false, false, false, false, false, false, false] rfl rfl (by kernel_rfl) (fun _ _ _ h => h) (Or.inl ⟨by rfl, ?_⟩) ?_ ?_
        rotate_left
        · intro w'
          go_simp
          try with_reducible rfl
        rotate_left
        · simp only [Act.put, List.setIfInBounds_toArray, List.set_cons_zero, List.set_cons_succ, i64_w, i32_w]
          rfl
        refine pure_ (i := 2) (N := some 29) (v := ?_) (a' := ?_) #[true, true, true, false, false, false, false, false, false, false, false, false, false, false, false] rfl rfl (by kernel_rfl) (fun _ _ _ h => h) (Or.inl ⟨by rfl, ?_⟩) ?_ ?_
        rotate_left
        · intro w'
          go_simp
          try with_reducible rfl
        rotate_left
        · simp only [Act.put, List.setIfInBounds_toArray, List.set_cons_zero, List.set_cons_succ, i64_w, i32_w]
          rfl
        refine pure_ (i := 3) (N := some 30) (v := ?_) (a' := ?_) #[true, true, true, true, false, false, false, false, false, false, false, false, false, false, false] rfl rfl (by kernel_rfl) (fun _ _ _ h => h) (Or.inl ⟨by rfl, ?_⟩) ?_ ?_
        rotate_left
        · intro w'
          go_simp
          try with_reducible rfl
        rotate_left
        · simp only [Act.put, List.setIfInBounds_toArray, List.set_cons_zero, List.set_cons_succ, i64_w, i32_w]
          rfl
        refine take_ (i := 4) (N := some 31) (v := ?_) (a' := ?_) #[true, true, true, true, true, false, false, false, false, false, false, false, false, false, false] rfl rfl (by kernel_rfl) (fun _ _ _ h => h) (Or.inl ⟨by rfl, ?_⟩) hHeld ?_ ?_
        rotate_left
        · intro w' s0
          go_simp
          try with_reducible rfl
        rotate_left
        · simp only [Act.put, List.setIfInBounds_toArray, List.set_cons_zero, List.set_cons_succ, i64_w, i32_w]
          rfl
        refine pure_ (i := 5) (N := some 32) (v := ?_) (a' := ?_) #[true, true, true, true, true, true, false, false, false, false, false, false, false, false, false] rfl rfl (by kernel_rfl) (fun _ _ _ h => h) (Or.inl ⟨by rfl, ?_⟩) ?_ ?_
        rotate_left
        · intro w'
          go_simp
          try with_reducible rfl
        rotate_left
        · simp only [Act.put, List.setIfInBounds_toArray, List.set_cons_zero, List.set_cons_succ, i64_w, i32_w]
          rfl
        refine pure_ (i := 6) (N := some 33) (v := ?_) (a' := ?_) #[true, true, true, true, true, true, true, false, false, false, false, false, false, false, false] rfl rfl (by kernel_rfl) (fun _ _ _ h => h) (Or.inl ⟨by rfl, ?_⟩) ?_ ?_
        rotate_left
        · intro w'
          go_simp
          try with_reducible rfl
        rotate_left
        · simp only [Act.put, List.setIfInBounds_toArray, List.set_cons_zero, List.set_cons_succ, i64_w, i32_w]
          rfl
        refine pure_ (i := 7) (N := some 34) (v := ?_) (a' := ?_) #[true, true, true, true, true, true, true, true, false, false, false, false, false, false, false] rfl rfl (by kernel_rfl) (fun _ _ _ h => h) (Or.inl ⟨by rfl, ?_⟩) ?_ ?_
        rotate_left
        · intro w'
          go_simp
          try with_reducible rfl
        rotate_left
        · simp only [Act.put, List.setIfInBounds_toArray, List.set_cons_zero, List.set_cons_succ, i64_w, i32_w]
          rfl
        refine take_ (i := 8) (N := some 35) (v := ?_) (a' := ?_) #[true, true, true, true, true, true, true, true, true, false, false, false, false, false, false] rfl rfl (by kernel_rfl) (fun _ _ _ h => h) (Or.inl ⟨by rfl, ?_⟩) hHeld ?_ ?_
        rotate_left
        · intro w' s0
          go_simp
          try with_reducible rfl
        rotate_left
        · simp only [Act.put, List.setIfInBounds_toArray, List.set_cons_zero, List.set_cons_succ, i64_w, i32_w]
          rfl
        refine pure_ (i := 9) (N := some 36) (v := ?_) (a' := ?_) #[true, true, true, true, true, true, true, true, true, true, false, false, false, false, false] rfl rfl (by kernel_rfl) (fun _ _ _ h => h) (Or.inl ⟨by rfl, ?_⟩) ?_ ?_
        rotate_left
        · intro w'
          go_simp
          try with_reducible rfl
        rotate_left
        · simp only [Act.put, List.setIfInBounds_toArray, List.set_cons_zero, List.set_cons_succ, i64_w, i32_w]
          rfl
        refine pure_ (i := 10) (N := some 37) (v := ?_) (a' := ?_) #[true, true, true, true, true, true, true, true, true, true, true, false, false, false, false] rfl rfl (by kernel_rfl) (fun _ _ _ h => h) (Or.inl ⟨by rfl, ?_⟩) ?_ ?_
        rotate_left
        · intro w'
          go_simp
          try with_reducible rfl
        rotate_left
        · simp only [Act.put, List.setIfInBounds_toArray, List.set_cons_zero, List.set_cons_succ, i64_w, i32_w]
          rfl
        refine pure_ (i := 11) (N := some 38) (v := ?_) (a' := ?_) #[true, true, true, true, true, true, true, true, true, true, true, true, false, false, false] rfl rfl (by kernel_rfl) (fun _ _ _ h => h) (Or.inl ⟨by rfl, ?_⟩) ?_ ?_
        rotate_left
        · intro w'
          go_simp
          try with_reducible rfl
        rotate_left
        · simp only [Act.put, List.setIfInBounds_toArray, List.set_cons_zero, List.set_cons_succ, i64_w, i32_w]
          rfl
        refine pure_ (i := 12) (N := some 39) (v := ?_) (a' := ?_) #[true, true, true, true, true, true, true, true, true, true, true, true, true, false, false] rfl rfl (by kernel_rfl) (fun _ _ _ h => h) (Or.inl ⟨by rfl, ?_⟩) ?_ ?_
        rotate_left
        · intro w'
          go_simp
          try with_reducible rfl
        rotate_left
        · simp only [Act.put, List.setIfInBounds_toArray, List.set_cons_zero, List.set_cons_succ, i64_w, i32_w]
          rfl
        refine pure_ (i := 13) (N := some 40) (v := ?_) (a' := ?_) #[true, true, true, true, true, true, true, true, true, true, true, true, true, true, false] rfl rfl (by kernel_rfl) (fun _ _ _ h => h) (Or.inl ⟨by rfl, ?_⟩) ?_ ?_
        rotate_left
        · intro w'
          go_simp
          try with_reducible rfl
        rotate_left
        · simp only [Act.put, List.setIfInBounds_toArray, List.set_cons_zero, List.set_cons_succ, i64_w, i32_w]
          rfl
        refine last_ (i := 14) (N := none) #[true, true, true, true, true, true, true, true, true, true, true, true, true, true, true] rfl rfl (by kernel_rfl) (by decide) (fun K hK => ?_)
        rw [if_pos (by rfl)]
        go_simp
        refine hK.out _ _ ?_
        clear hK K
        refine done_ (by kernel_rfl) ?_
        clear hw0 hwi
        have h4 := H4.out; have m4 := M4.out; have z4 := Z4.out; have q4 := Q4.out
        clear c12 f12
        generalize (W3.setCell ⟨g, 12, none⟩ (.slice (some ⟨gf, 0, none⟩) j cap)).drew = W4 at h4 m4 z4 q4 ⊢
        have y2 := (blk_cell z4 2).trans rfl
        have HP := Lib.hid (stacks_pushA W4 base g D fx _ vT' _ _ h4 s.top.f1.f1 (arg_row h4 q4) HL.out)
        have M4 := Lib.hid m4
        clear h4 m4 z4 q4
        go_wp2_with (first | ((go_at_call 146); (with_reducible refine HP.out.mono ?_); rintro e w' ⟨rfl, vT2, vF2, m2, h2⟩))
        go_end0
        refine ⟨rfl, vT2, vF2, M4.out.trans m2, ?_⟩
        have e : s.end_ = Sp.St.push ⟨s.leave.T, s.leave.F.take j, true⟩ s.top.f1.f1 := by
          have hf := HLF.out; have hj := HJ.out; have h4 := H4B.out; have he := HEB.out
          unfold Sp.St.end_ Sp.St.err Sp.St.less
          have hm2 : (1 < s.leave.F.length) ↔ True := ⟨fun _ => trivial, fun _ => by omega⟩
          simp [h4, he, hm, hm2, hf, hj]
        rw [e]
        exact h2
    · have H4B := Lib.hid h4; have g4 : (s.top.f0 == 4) = false := by simpa using h4
      clear h4
      go_enter Tryz.func93, Tryz.ntmps93
      go_wp2_with (first | ((go_at_call 147); (with_reducible refine HLV.out.mono ?_); rintro e W ⟨v1, v2, rfl, vT', vF', m, hS, q1, q2⟩; obtain ⟨A1, c1, rfl⟩ := Kd.R_slice q1; obtain ⟨A2, c2, rfl⟩ := Kd.R_slice q2; have HC1 := Lib.hid (Kd.R_reads' q1).2.2; have HC2 := Lib.hid (Kd.R_reads' q2).2.2; obtain ⟨gf, cap, rfl, hgfg, hgfb, hgfD⟩ := stk_frames hS (by rw [HLF.out]; exact HFP.out); rw [HLF.out, HJ.out] at hS q1 q2; have c12 := (blk_cell hS.1 12).trans (stk_12 hS.2.1 _ _ _); have f12 := blk_frozen hS.1 12; have f13 := blk_frozen hS.1 13; have c13 := (blk_cell hS.1 13).trans (stk_13 hS.2.1 _ _ _); have glt := blk_lt hS.1; have HM := Lib.hid m; have HS := Lib.hid hS; have HQ2 := Lib.hid q2; clear m hS q1 q2) | ((go_at_call 148); (with_reducible refine (slices_Equal A1 A2 c1 c2 _ _ _ (Kd.C_alloc HC1.out _) (Kd.C_alloc HC2.out _)).mono ?_); rintro e w' ⟨rfl, n, rfl⟩))
      have h3 : StkAt (W.alloc (.cells #[.int .i64 s.top.f0, .slice A1 s.top.f1.f0.length c1, .slice A2 s.top.f1.f1.length c2, .int .i64 s.top.f2, .bool s.top.f3] 113)) base g D fx ⟨s.leave.T, s.leave.F, s.leave.bad⟩ vT' (.slice (some ⟨gf, 0, none⟩) (j + 1) cap) := stk_alloc HS.out (.cells #[.int .i64 s.top.f0, .slice A1 s.top.f1.f0.length c1, .slice A2 s.top.f1.f1.length c2, .int .i64 s.top.f2, .bool s.top.f3] 113)
      have m3 := (HM.out.alloc (.cells #[.int .i64 s.top.f0, .slice A1 s.top.f1.f0.length c1, .slice A2 s.top.f1.f1.length c2, .int .i64 s.top.f2, .bool s.top.f3] 113))
      have z3 := (heap_alloc_new W (.cells #[.int .i64 s.top.f0, .slice A1 s.top.f1.f0.length c1, .slice A2 s.top.f1.f1.length c2, .int .i64 s.top.f2, .bool s.top.f3] 113))
      have q3 : TypesR (W.alloc (.cells #[.int .i64 s.top.f0, .slice A1 s.top.f1.f0.length c1, .slice A2 s.top.f1.f1.length c2, .int .i64 s.top.f2, .bool s.top.f3] 113)) base _ _ _ := Kd.R_alloc HQ2.out (.cells #[.int .i64 s.top.f0, .slice A1 s.top.f1.f0.length c1, .slice A2 s.top.f1.f1.length c2, .int .i64 s.top.f2, .bool s.top.f3] 113)
      clear c12 c13 f12 f13
      generalize (W.alloc (.cells #[.int .i64 s.top.f0, .slice A1 s.top.f1.f0.length c1, .slice A2 s.top.f1.f1.length c2, .int .i64 s.top.f2, .bool s.top.f3] 113)) = W3 at h3 m3 z3 q3 ⊢
      have y2 := (blk_cell z3 2).trans rfl
      have c12 := (blk_cell h3.1 12).trans (stk_12 h3.2.1 _ _ _)
      have f12 := blk_frozen h3.1 12
      have hwlt := blk_lt z3
      have hcap : (j : Int) ≤ (cap : Int) := by have := (Kd.R_reads' h3.2.2.2.2.2.1).2.1; omega
      have h4 := stk_less (j := j) h3 (by show j ≤ s.leave.F.length; have := HLF.out; have := HJ.out; omega)
      have m4 : Mv g w (W3.setCell ⟨g, 12, none⟩ (.slice (some ⟨gf, 0, none⟩) j cap)).drew vT vF vT' (.slice (some ⟨gf, 0, none⟩) j cap) := ((m3.set 12 (.slice (some ⟨gf, 0, none⟩) j cap)).drewN 1).same_F rfl
      have z4 := blk_drew (blk_far z3 (p := ⟨g, 12, none⟩) (by show W.heap.size ≠ g; omega) (.slice (some ⟨gf, 0, none⟩) j cap))
      have q4 : TypesR (W3.setCell ⟨g, 12, none⟩ (.slice (some ⟨gf, 0, none⟩) j cap)).drew base (fun k => k ≠ g ∧ some k ≠ vT'.ownBlock ∧ some k ≠ (Value.slice (some ⟨gf, 0, none⟩) j cap).ownBlock) _ _ := Kd.R_drewN (Kd.R_far q3 (p := ⟨g, 12, none⟩) (fun k hk => hk.1) (.slice (some ⟨gf, 0, none⟩) j cap)) 1
      have H4 := Lib.hid h4; have M4 := Lib.hid m4; have Z4 := Lib.hid z4; have Q4 := Lib.hid q4
      clear h3 m3 z3 q3 y2 h4 m4 z4 q4
      have hw0 : wrap64 (j : Int) = (j : Int) := Tx.w64 (by omega) (by omega)
      have hwi : IntKind.i64.wrap (j : Int) = (j : Int) := (wi64 _).trans hw0
      refine start_ (n := 15) (S := fun w' => w'.cell? ⟨g, 12, none⟩ = some (.slice (some ⟨gf, 0, none⟩) (j + 1) cap)) (ds := [14]) #[false, false, false, false, false, false, false, false, false, false, false, false, false, false, false] (by kernel_rfl) rfl rfl c12 (fun hHeld => ?_)
      refine pure_ (i := 0) (N := some 27) (v := ?_) (a' := ?_) #[true, false, false, false, false, false, false, false, false, false, false, false, false, false, false] rfl rfl (by kernel_rfl) (fun _ _ _ h => h) (Or.inl ⟨by rfl, ?_⟩) ?_ ?_
      rotate_left
      · intro w'
        go_simp
        try with_reducible rfl
      rotate_left
      · simp only [Act.put, List.setIfInBounds_toArray, List.set_cons_zero, List.set_cons_succ, i64_w, i32_w]
        rfl
      refine pure_ (i := 1) (N := some 28) (v := ?_) (a' := ?_) #[true, true, false, false, false, false, false, false, false, false, false, false, false, false, false] rfl rfl (by kernel_rfl) (fun _ _ _ h => h) (Or.inl ⟨by rfl, ?_⟩) ?_ ?_
      rotate_left
      · intro w'
        go_simp
        try with_reducible rfl
      rotate_left
      · simp only [Act.put, List.setIfInBounds_toArray, List.set_cons_zero, List.set_cons_succ, i64_w, i32_w]
        rfl
      refine pure_ (i := 2) (N := some 29) (v := ?_) (a' := ?_) #[true, true, true, false, false, false, false, false, false, false, false, false, false, false, false] rfl rfl (by kernel_rfl) (fun _ _ _ h => h) (Or.inl ⟨by rfl, ?_⟩) ?_ ?_
      rotate_left
      · intro w'
        go_simp
        try with_reducible rfl
      rotate_left
      · simp only [Act.put, List.setIfInBounds_toArray, List.set_cons_zero, List.set_cons_succ, i64_w, i32_w]
        rfl
      refine pure_ (i := 3) (N := some 30) (v := ?_) (a' := ?_) #[true, true, true, true, false, false, false, false, false, false, false, false, false, false, false] rfl rfl (by kernel_rfl) (fun _ _ _ h => h) (Or.inl ⟨by rfl, ?_⟩) ?_ ?_
      rotate_left
      · intro w'
        go_simp
        try with_reducible rfl
      rotate_left
      · simp only [Act.put, List.setIfInBounds_toArray, List.set_cons_zero, List.set_cons_succ, i64_w, i32_w]
        rfl
      refine take_ (i := 4) (N := some 31) (v := ?_) (a' := ?_) #[true, true, true, true, true, false, false, false, false, false, false, false, false, false, false] rfl rfl (by kernel_rfl) (fun _ _ _ h => h) (Or.inl ⟨by rfl, ?_⟩) hHeld ?_ ?_
      rotate_left
      · intro w' s0
        go_simp
        try with_reducible rfl
      rotate_left
      · simp only [Act.put, List.setIfInBounds_toArray, List.set_cons_zero, List.set_cons_succ, i64_w, i32_w]
        rfl
      refine pure_ (i := 5) (N := some 32) (v := ?_) (a' := ?_) #[true, true, true, true, true, true, false, false, false, false, false, false, false, false, false] rfl rfl (by kernel_rfl) (fun _ _ _ h => h) (Or.inl ⟨by rfl, ?_⟩) ?_ ?_
      rotate_left
      · intro w'
        go_simp
        try with_reducible rfl
      rotate_left
      · simp only [Act.put, List.setIfInBounds_toArray, List.set_cons_zero, List.set_cons_succ, i64_w, i32_w]
        rfl
      refine pure_ (i := 6) (N := some 33) (v := ?_) (a' := ?_) #[true, true, true, true, true, true, true, false, false, false, false, false, false, false, false] rfl rfl (by kernel_rfl) (fun _ _ _ h => h) (Or.inl ⟨by rfl, ?_⟩) ?_ ?_
      rotate_left
      · intro w'
        go_simp
        try with_reducible rfl
      rotate_left
      · simp only [Act.put, List.setIfInBounds_toArray, List.set_cons_zero, List.set_cons_succ, i64_w, i32_w]
        rfl
      refine pure_ (i := 7) (N := some 34) (v := ?_) (a' := ?_) #[true, true, true, true, true, true, true, true, false, false, false, false, false, false, false] rfl rfl (by kernel_rfl) (fun _ _ _ h => h) (Or.inl ⟨by rfl, ?_⟩) ?_ ?_
      rotate_left
      · intro w'
        go_simp
        try with_reducible rfl
      rotate_left
      · simp only [Act.put, List.setIfInBounds_toArray, List.set_cons_zero, List.set_cons_succ, i64_w, i32_w]
        rfl
      refine take_ (i := 8) (N := some 35) (v := ?_) (a' := ?_) #[true, true, true, true, true, true, true, true, true, false, false, false, false, false, false] rfl rfl (by kernel_rfl) (fun _ _ _ h => h) (Or.inl ⟨by rfl, ?_⟩) hHeld ?_ ?_
      rotate_left
      · intro w' s0
        go_simp
        try with_reducible rfl
      rotate_left
      · simp only [Act.put, List.setIfInBounds_toArray, List.set_cons_zero, List.set_cons_succ, i64_w, i32_w]
        rfl
      refine pure_ (i := 9) (N := some 36) (v := ?_) (a' := ?_) #[true, true, true, true, true, true, true, true, true, true, false, false, false, false, false] rfl rfl (by kernel_rfl) (fun _ _ _ h => h) (Or.inl ⟨by rfl, ?_⟩) ?_ ?_
      rotate_left
      · intro w'
        go_simp
        try with_reducible rfl
      rotate_left
      · simp only [Act.put, List.setIfInBounds_toArray, List.set_cons_zero, List.set_cons_succ, i64_w, i32_w]
        rfl
      refine pure_ (i := 10) (N := some 37) (v := ?_) (a' := ?_) #[true, true, true, true, true, true, true, true, true, true, true, false, false, false, false] rfl rfl (by kernel_rfl) (fun _ _ _ h => h) (Or.inl ⟨by rfl, ?_⟩) ?_ ?_
      rotate_left
      · intro w'
        go_simp
        try with_reducible rfl
      rotate_left
      · simp only [Act.put, List.setIfInBounds_toArray, List.set_cons_zero, List.set_cons_succ, i64_w, i32_w]
        rfl
      refine pure_ (i := 11) (N := some 38) (v := ?_) (a' := ?_) #[true, true, true, true, true, true, true, true, true, true, true, true, false, false, false] rfl rfl (by kernel_rfl) (fun _ _ _ h => h) (Or.inl ⟨by rfl, ?_⟩) ?_ ?_
      rotate_left
      · intro w'
        go_simp
        try with_reducible rfl
      rotate_left
      · simp only [Act.put, List.setIfInBounds_toArray, List.set_cons_zero, List.set_cons_succ, i64_w, i32_w]
        rfl
      refine pure_ (i := 12) (N := some 39) (v := ?_) (a' := ?_) #[true, true, true, true, true, true, true, true, true, true, true, true, true, false, false] rfl rfl (by kernel_rfl) (fun _ _ _ h => h) (Or.inl ⟨by rfl, ?_⟩) ?_ ?_
      rotate_left
      · intro w'
        go_simp
        try with_reducible rfl
      rotate_left
      · simp only [Act.put, List.setIfInBounds_toArray, List.set_cons_zero, List.set_cons_succ, i64_w, i32_w]
        rfl
      refine pure_ (i := 13) (N := some 40) (v := ?_) (a' := ?_) #[true, true, true, true, true, true, true, true, true, true, true, true, true, true, false] rfl rfl (by kernel_rfl) (fun _ _ _ h => h) (Or.inl ⟨by rfl, ?_⟩) ?_ ?_
      rotate_left
      · intro w'
        go_simp
        try with_reducible rfl
      rotate_left
      · simp only [Act.put, List.setIfInBounds_toArray, List.set_cons_zero, List.set_cons_succ, i64_w, i32_w]
        rfl
      refine last_ (i := 14) (N := none) #[true, true, true, true, true, true, true, true, true, true, true, true, true, true, true] rfl rfl (by kernel_rfl) (by decide) (fun K hK => ?_)
      rw [if_pos (by rfl)]
      go_simp
      refine hK.out _ _ ?_
      clear hK K
      refine done_ (by kernel_rfl) ?_
      clear hw0 hwi
      have h4 := H4.out; have m4 := M4.out; have z4 := Z4.out; have q4 := Q4.out
      clear c12 f12
      generalize (W3.setCell ⟨g, 12, none⟩ (.slice (some ⟨gf, 0, none⟩) j cap)).drew = W4 at h4 m4 z4 q4 ⊢
      have y2 := (blk_cell z4 2).trans rfl
      have HP := Lib.hid (stacks_pushA W4 base g D fx _ vT' _ _ h4 s.top.f1.f1 (arg_row h4 q4) HL.out)
      have M4 := Lib.hid m4
      clear h4 m4 z4 q4
      go_wp2_with (first | ((go_at_call 146); (with_reducible refine HP.out.mono ?_); rintro e w' ⟨rfl, vT2, vF2, m2, h2⟩))
      go_end0
      refine ⟨rfl, vT2, vF2, M4.out.trans m2, ?_⟩
      have e : s.end_ = Sp.St.push ⟨s.leave.T, s.leave.F.take j, s.leave.bad⟩ s.top.f1.f1 := by
        have hf := HLF.out; have hj := HJ.out; have h4 := H4B.out
        unfold Sp.St.end_ Sp.St.err Sp.St.less
        have hm2 : (1 < s.leave.F.length) ↔ True := ⟨fun _ => trivial, fun _ => by omega⟩
        simp [h4, hm, hm2, hf, hj]
      rw [e]
      exact h2
  · obtain rfl : j = 0 := by omega
    clear hm hjl
    by_cases h4 : s.top.f0 = 4
    · have H4B := Lib.hid h4; have g4 : (s.top.f0 == 4) = true := by simpa using h4
      clear h4
      by_cases he : s.top.f1.f0 = s.top.f1.f1
      · have HEB := Lib.hid he; have ge : decide (s.top.f1.f0 = s.top.f1.f1) = true := decide_eq_true he
        clear he
        go_enter Tryz.func93, Tryz.ntmps93
        go_wp2_with (first | ((go_at_call 147); (with_reducible refine HLV.out.mono ?_); rintro e W ⟨v1, v2, rfl, vT', vF', m, hS, q1, q2⟩; obtain ⟨A1, c1, rfl⟩ := Kd.R_slice q1; obtain ⟨A2, c2, rfl⟩ := Kd.R_slice q2; have HC1 := Lib.hid (Kd.R_reads' q1).2.2; have HC2 := Lib.hid (Kd.R_reads' q2).2.2; obtain ⟨gf, cap, rfl, hgfg, hgfb, hgfD⟩ := stk_frames hS (by rw [HLF.out]; exact HFP.out); rw [HLF.out, HJ.out] at hS q1 q2; have c12 := (blk_cell hS.1 12).trans (stk_12 hS.2.1 _ _ _); have f12 := blk_frozen hS.1 12; have f13 := blk_frozen hS.1 13; have c13 := (blk_cell hS.1 13).trans (stk_13 hS.2.1 _ _ _); have glt := blk_lt hS.1; have HM := Lib.hid m; have HS := Lib.hid hS; have HQ2 := Lib.hid q2; clear m hS q1 q2) | ((go_at_call 148); (with_reducible refine (slices_Equal A1 A2 c1 c2 _ _ _ (Kd.C_alloc HC1.out _) (Kd.C_alloc HC2.out _)).mono ?_); rintro e w' ⟨rfl, n, rfl⟩))
        have h3 : StkAt ((W.alloc (.cells #[.int .i64 s.top.f0, .slice A1 s.top.f1.f0.length c1, .slice A2 s.top.f1.f1.length c2, .int .i64 s.top.f2, .bool s.top.f3] 113)).drewN n) base g D fx ⟨s.leave.T, s.leave.F, s.leave.bad⟩ vT' (.slice (some ⟨gf, 0, none⟩) (0 + 1) cap) := stk_drewN (stk_alloc HS.out (.cells #[.int .i64 s.top.f0, .slice A1 s.top.f1.f0.length c1, .slice A2 s.top.f1.f1.length c2, .int .i64 s.top.f2, .bool s.top.f3] 113)) n
        have m3 := ((HM.out.alloc (.cells #[.int .i64 s.top.f0, .slice A1 s.top.f1.f0.length c1, .slice A2 s.top.f1.f1.length c2, .int .i64 s.top.f2, .bool s.top.f3] 113)).drewN n)
        have z3 := (blk_drewN (heap_alloc_new W (.cells #[.int .i64 s.top.f0, .slice A1 s.top.f1.f0.length c1, .slice A2 s.top.f1.f1.length c2, .int .i64 s.top.f2, .bool s.top.f3] 113)) n)
        have q3 : TypesR ((W.alloc (.cells #[.int .i64 s.top.f0, .slice A1 s.top.f1.f0.length c1, .slice A2 s.top.f1.f1.length c2, .int .i64 s.top.f2, .bool s.top.f3] 113)).drewN n) base _ _ _ := Kd.R_drewN (Kd.R_alloc HQ2.out (.cells #[.int .i64 s.top.f0, .slice A1 s.top.f1.f0.length c1, .slice A2 s.top.f1.f1.length c2, .int .i64 s.top.f2, .bool s.top.f3] 113)) n
        clear c12 c13 f12 f13
        generalize ((W.alloc (.cells #[.int .i64 s.top.f0, .slice A1 s.top.f1.f0.length c1, .slice A2 s.top.f1.f1.length c2, .int .i64 s.top.f2, .bool s.top.f3] 113)).drewN n) = W3 at h3 m3 z3 q3 ⊢
        have y2 := (blk_cell z3 2).trans rfl
        refine (stacks_pushA W3 base g D fx _ vT' _ _ h3 s.top.f1.f1 (arg_row h3 q3) HL.out).mono ?_
        rintro e w' ⟨rfl, vT2, vF2, m2, h2⟩
        go_wp2_with fail
        go_end0
        rw [show s.leave.F.length = 0 + 1 from HLF.out.trans HJ.out] at m3
        refine ⟨rfl, vT2, vF2, m3.trans m2, ?_⟩
        have e : s.end_ = Sp.St.push ⟨s.leave.T, s.leave.F, s.leave.bad⟩ s.top.f1.f1 := by
          have hf := HLF.out; have hj := HJ.out; have h4 := H4B.out; have he := HEB.out
          unfold Sp.St.end_ Sp.St.err Sp.St.less
          have hm2 : (1 < s.leave.F.length) ↔ False := ⟨fun q => by omega, fun q => q.elim⟩
          simp [h4, he, hm2, hf, hj]
        rw [e]
        exact h2
      · have HEB := Lib.hid he; have ge : decide (s.top.f1.f0 = s.top.f1.f1) = false := decide_eq_false he
        clear he
        go_enter Tryz.func93, Tryz.ntmps93
        go_wp2_with (first | ((go_at_call 147); (with_reducible refine HLV.out.mono ?_); rintro e W ⟨v1, v2, rfl, vT', vF', m, hS, q1, q2⟩; obtain ⟨A1, c1, rfl⟩ := Kd.R_slice q1; obtain ⟨A2, c2, rfl⟩ := Kd.R_slice q2; have HC1 := Lib.hid (Kd.R_reads' q1).2.2; have HC2 := Lib.hid (Kd.R_reads' q2).2.2; obtain ⟨gf, cap, rfl, hgfg, hgfb, hgfD⟩ := stk_frames hS (by rw [HLF.out]; exact HFP.out); rw [HLF.out, HJ.out] at hS q1 q2; have c12 := (blk_cell hS.1 12).trans (stk_12 hS.2.1 _ _ _); have f12 := blk_frozen hS.1 12; have f13 := blk_frozen hS.1 13; have c13 := (blk_cell hS.1 13).trans (stk_13 hS.2.1 _ _ _); have glt := blk_lt hS.1; have HM := Lib.hid m; have HS := Lib.hid hS; have HQ2 := Lib.hid q2; clear m hS q1 q2) | ((go_at_call 148); (with_reducible refine (slices_Equal A1 A2 c1 c2 _ _ _ (Kd.C_alloc HC1.out _) (Kd.C_alloc HC2.out _)).mono ?_); rintro e w' ⟨rfl, n, rfl⟩))
        have h3 : StkAt (((W.alloc (.cells #[.int .i64 s.top.f0, .slice A1 s.top.f1.f0.length c1, .slice A2 s.top.f1.f1.length c2, .int .i64 s.top.f2, .bool s.top.f3] 113)).drewN n).setCell ⟨g, 13, none⟩ (.bool true)) base g D fx ⟨s.leave.T, s.leave.F, true⟩ vT' (.slice (some ⟨gf, 0, none⟩) (0 + 1) cap) := stk_bad (stk_drewN (stk_alloc HS.out (.cells #[.int .i64 s.top.f0, .slice A1 s.top.f1.f0.length c1, .slice A2 s.top.f1.f1.length c2, .int .i64 s.top.f2, .bool s.top.f3] 113)) n) true
        have m3 := (((HM.out.alloc (.cells #[.int .i64 s.top.f0, .slice A1 s.top.f1.f0.length c1, .slice A2 s.top.f1.f1.length c2, .int .i64 s.top.f2, .bool s.top.f3] 113)).drewN n).set 13 (.bool true))
        have z3 := (blk_far (blk_drewN (heap_alloc_new W (.cells #[.int .i64 s.top.f0, .slice A1 s.top.f1.f0.length c1, .slice A2 s.top.f1.f1.length c2, .int .i64 s.top.f2, .bool s.top.f3] 113)) n) (p := ⟨g, 13, none⟩) (by show W.heap.size ≠ g; omega) (.bool true))
        have q3 : TypesR (((W.alloc (.cells #[.int .i64 s.top.f0, .slice A1 s.top.f1.f0.length c1, .slice A2 s.top.f1.f1.length c2, .int .i64 s.top.f2, .bool s.top.f3] 113)).drewN n).setCell ⟨g, 13, none⟩ (.bool true)) base _ _ _ := Kd.R_far (Kd.R_drewN (Kd.R_alloc HQ2.out (.cells #[.int .i64 s.top.f0, .slice A1 s.top.f1.f0.length c1, .slice A2 s.top.f1.f1.length c2, .int .i64 s.top.f2, .bool s.top.f3] 113)) n) (p := ⟨g, 13, none⟩) (fun k hk => hk.1) (.bool true)
        clear c12 c13 f12 f13
        generalize (((W.alloc (.cells #[.int .i64 s.top.f0, .slice A1 s.top.f1.f0.length c1, .slice A2 s.top.f1.f1.length c2, .int .i64 s.top.f2, .bool s.top.f3] 113)).drewN n).setCell ⟨g, 13, none⟩ (.bool true)) = W3 at h3 m3 z3 q3 ⊢
        have y2 := (blk_cell z3 2).trans rfl
        refine (stacks_pushA W3 base g D fx _ vT' _ _ h3 s.top.f1.f1 (arg_row h3 q3) HL.out).mono ?_
        rintro e w' ⟨rfl, vT2, vF2, m2, h2⟩
        go_wp2_with fail
        go_end0
        rw [show s.leave.F.length = 0 + 1 from HLF.out.trans HJ.out] at m3
        refine ⟨rfl, vT2, vF2, m3.trans m2, ?_⟩
        have e : s.end_ = Sp.St.push ⟨s.leave.T, s.leave.F, true⟩ s.top.f1.f1 := by
          have hf := HLF.out; have hj := HJ.out; have h4 := H4B.out; have he := HEB.out
          unfold Sp.St.end_ Sp.St.err Sp.St.less
          have hm2 : (1 < s.leave.F.length) ↔ False := ⟨fun q => by omega, fun q => q.elim⟩
          simp [h4, he, hm2, hf, hj]
        rw [e]
        exact h2
    · have H4B := Lib.hid h4; have g4 : (s.top.f0 == 4) = false := by simpa using h4
      clear h4
      go_enter Tryz.func93, Tryz.ntmps93
      go_wp2_with (first | ((go_at_call 147); (with_reducible refine HLV.out.mono ?_); rintro e W ⟨v1, v2, rfl, vT', vF', m, hS, q1, q2⟩; obtain ⟨A1, c1, rfl⟩ := Kd.R_slice q1; obtain ⟨A2, c2, rfl⟩ := Kd.R_slice q2; have HC1 := Lib.hid (Kd.R_reads' q1).2.2; have HC2 := Lib.hid (Kd.R_reads' q2).2.2; obtain ⟨gf, cap, rfl, hgfg, hgfb, hgfD⟩ := stk_frames hS (by rw [HLF.out]; exact HFP.out); rw [HLF.out, HJ.out] at hS q1 q2; have c12 := (blk_cell hS.1 12).trans (stk_12 hS.2.1 _ _ _); have f12 := blk_frozen hS.1 12; have f13 := blk_frozen hS.1 13; have c13 := (blk_cell hS.1 13).trans (stk_13 hS.2.1 _ _ _); have glt := blk_lt hS.1; have HM := Lib.hid m; have HS := Lib.hid hS; have HQ2 := Lib.hid q2; clear m hS q1 q2) | ((go_at_call 148); (with_reducible refine (slices_Equal A1 A2 c1 c2 _ _ _ (Kd.C_alloc HC1.out _) (Kd.C_alloc HC2.out _)).mono ?_); rintro e w' ⟨rfl, n, rfl⟩))
      have h3 : StkAt (W.alloc (.cells #[.int .i64 s.top.f0, .slice A1 s.top.f1.f0.length c1, .slice A2 s.top.f1.f1.length c2, .int .i64 s.top.f2, .bool s.top.f3] 113)) base g D fx ⟨s.leave.T, s.leave.F, s.leave.bad⟩ vT' (.slice (some ⟨gf, 0, none⟩) (0 + 1) cap) := stk_alloc HS.out (.cells #[.int .i64 s.top.f0, .slice A1 s.top.f1.f0.length c1, .slice A2 s.top.f1.f1.length c2, .int .i64 s.top.f2, .bool s.top.f3] 113)
      have m3 := (HM.out.alloc (.cells #[.int .i64 s.top.f0, .slice A1 s.top.f1.f0.length c1, .slice A2 s.top.f1.f1.length c2, .int .i64 s.top.f2, .bool s.top.f3] 113))
      have z3 := (heap_alloc_new W (.cells #[.int .i64 s.top.f0, .slice A1 s.top.f1.f0.length c1, .slice A2 s.top.f1.f1.length c2, .int .i64 s.top.f2, .bool s.top.f3] 113))
      have q3 : TypesR (W.alloc (.cells #[.int .i64 s.top.f0, .slice A1 s.top.f1.f0.length c1, .slice A2 s.top.f1.f1.length c2, .int .i64 s.top.f2, .bool s.top.f3] 113)) base _ _ _ := Kd.R_alloc HQ2.out (.cells #[.int .i64 s.top.f0, .slice A1 s.top.f1.f0.length c1, .slice A2 s.top.f1.f1.length c2, .int .i64 s.top.f2, .bool s.top.f3] 113)
      clear c12 c13 f12 f13
      generalize (W.alloc (.cells #[.int .i64 s.top.f0, .slice A1 s.top.f1.f0.length c1, .slice A2 s.top.f1.f1.length c2, .int .i64 s.top.f2, .bool s.top.f3] 113)) = W3 at h3 m3 z3 q3 ⊢
      have y2 := (blk_cell z3 2).trans rfl
      refine (stacks_pushA W3 base g D fx _ vT' _ _ h3 s.top.f1.f1 (arg_row h3 q3) HL.out).mono ?_
      rintro e w' ⟨rfl, vT2, vF2, m2, h2⟩
      go_wp2_with fail
      go_end0
      rw [show s.leave.F.length = 0 + 1 from HLF.out.trans HJ.out] at m3
      refine ⟨rfl, vT2, vF2, m3.trans m2, ?_⟩
      have e : s.end_ = Sp.St.push ⟨s.leave.T, s.leave.F, s.leave.bad⟩ s.top.f1.f1 := by
        have hf := HLF.out; have hj := HJ.out; have h4 := H4B.out
        unfold Sp.St.end_ Sp.St.err Sp.St.less
        have hm2 : (1 < s.leave.F.length) ↔ False := ⟨fun q => by omega, fun q => q.elim⟩
        simp [h4, hm2, hf, hj]
      rw [e]
      exact h2
end Go.Proofs.YthehihjcpiadgaaGreat
end
section
namespace Go.Proofs.YthehihjcpiadgaaGreat
open Go.RowKit Go.Proofs.YthehihjcpiadgaaGreatW.PrintWords
set_option linter.unusedSimpArgs false
set_option linter.unusedVariables false
theorem ops_Numeric_none (op : Int) (w : World) (hn : Sp.numB op = false) : Calls Tryz.prog 153 #[.int .i64 op] w (SigEnd (Sp.numB op) (Sp.numP op) (Sp.numR op) w) := by
  have h := hn
  rw [Sp.numB, Bool.or_eq_false_iff] at h
  have c0 : ∀ w, Calls Tryz.prog 193 #[.int .i64 op] w (fun e w' => e = .returned (.bool false) ∧ w = w') := fun w => by have := ints_Is op w; rwa [h.1] at this
  have c2 : ∀ w, Calls Tryz.prog 194 #[.int .i64 op] w (fun e w' => e = .returned (.bool false) ∧ w = w') := fun w => by have := floats_Is op w; rwa [h.2] at this
  have HN := Lib.hid hn
  have H0 := Lib.hid c0; have H2 := Lib.hid c2; clear c0 c2 h hn
  go_enter Tryz.func153, Tryz.ntmps153
  go_wp2_with (first | (go_at_call 193; refine (H0.out _).mono ?_; rintro e w' ⟨rfl, rfl⟩) | (go_at_call 194; refine (H2.out _).mono ?_; rintro e w' ⟨rfl, rfl⟩))
  refine bodyPost_ret (v := _) (by simp [results, Tryz.results153, go_sem] <;> rfl) rfl ?_
  refine sig_none (by repeat (first | exact Below.refl _ _ | refine below_alloc ?_ _)) ?_
  simp [Sp.numP, Sp.numR, HN.out]
theorem ops_Numeric (op : Int) (w : World) : Calls Tryz.prog 153 #[.int .i64 op] w (SigEnd (Sp.numB op) (Sp.numP op) (Sp.numR op) w) := by
  cases hn : Sp.numB op with
  | false => rw [← hn]; exact ops_Numeric_none op w hn
  | true =>
    rw [← hn]
    cases ht : Sp.turnB op with
    | true => exact ops_Numeric_turn op w ht _ rfl
    | false => exact ops_Numeric_range op w ht _ rfl hn
/-- Whether the reference takes an op for one of numbers. -/
def IsNumEnd (ok : Bool) (w : World) (e : Ending) (w' : World) : Prop := ∃ v1 v2, e = .returned (.tuple #[v1, v2, .bool ok]) ∧ Below w.heap.size w w'
set_option maxRecDepth 100000 in
set_option maxHeartbeats 8000000 in
theorem ref3_IsNumeric (op : Int) (w : World) (b1 b2 : Bool) (h1 : Sp.isInt op = b1) (h2 : Sp.isFlt op = b2) : Calls Tryz.prog 19 #[.int .i64 op] w (IsNumEnd (b1 || b2) w) := by
  have c0 : ∀ w, Calls Tryz.prog 41 #[.int .i64 op] w (fun e w' => e = .returned (.bool b1) ∧ w = w') := fun w => by rw [← h1]; exact ref1_Is op w
  have c2 : ∀ w, Calls Tryz.prog 42 #[.int .i64 op] w (fun e w' => e = .returned (.bool b2) ∧ w = w') := fun w => by rw [← h2]; exact ref2_Is op w
  have H0 := Lib.hid c0; have H2 := Lib.hid c2; clear c0 c2 h1 h2
  cases b1 <;> cases b2
  all_goals
    go_enter Tryz.func19, Tryz.ntmps19
    go_wp2_with (first | (go_at_call 41; refine (H0.out _).mono ?_; rintro e w' ⟨rfl, rfl⟩) | (go_at_call 42; refine (H2.out _).mono ?_; rintro e w' ⟨rfl, rfl⟩))
    all_goals
      go_ret3
      exact ⟨_, _, rfl, by repeat (first | exact Below.refl _ _ | refine below_alloc ?_ _)⟩
end Go.Proofs.YthehihjcpiadgaaGreat
end
section
namespace Go.Proofs.YthehihjcpiadgaaGreat
open Go.RowKit Go.Proofs.YthehihjcpiadgaaGreatW.PrintWords Go.Proofs.YthehihjcpiadgaaGreatW.PrintLast
set_option linter.unusedSimpArgs false
set_option linter.unusedVariables false
/-- A row that is made now. -/
theorem arg_made {w : World} {base g n m t : Nat} {D : Nat → Prop} {fx : List Value} {s : Sp.St} {vT vF : Value} {xs : List Int} (h : StkAt w base g D fx s vT vF) (hn : n = w.heap.size) (hm : m = xs.length) :
    ArgRow (w.alloc (.cells (encs (Value.int .i64) xs).toArray t)) g vT vF (.slice (some ⟨n, 0, none⟩) m m) xs := by
  subst hn hm
  obtain ⟨h1, h2, h3⟩ := stk_lt h
  exact arg_new (heap_alloc_new w _) (by omega) (fun e => by have := h2 _ e.symm; omega) (fun e => by have := h3 _ e.symm; omega)
theorem stacks_pop_made {w : World} {base g n m t : Nat} {D : Nat → Prop} {fx : List Value} {s : Sp.St} {vT vF : Value} (xs : List Int) (h : StkAt w base g D fx s vT vF) (hI : Sp.SInv s) (hn : n = w.heap.size) (hm : m = xs.length) (hl : xs.length ≤ 1000000) :
    Calls Tryz.prog 145 #[.pointer (some ⟨g, 0, none⟩), .slice (some ⟨n, 0, none⟩) m m] (w.alloc (.cells (encs (Value.int .i64) xs).toArray t)) (StkEnd g base D fx w vT vF (.tuple #[]) (s.pop xs)) :=
  (stacks_popA _ base g D fx s vT vF _ (stk_alloc h _) hI xs (arg_made h hn hm) hl).mono (fun e w' ⟨he, vT', vF', m, hS⟩ => ⟨he, vT', vF', ((Mv.refl g w vT vF).alloc _).trans m, hS⟩)
theorem stacks_push_made {w : World} {base g n m t : Nat} {D : Nat → Prop} {fx : List Value} {s : Sp.St} {vT vF : Value} (xs : List Int) (h : StkAt w base g D fx s vT vF) (hn : n = w.heap.size) (hm : m = xs.length) (hl : s.T.length + xs.length ≤ 1000000) :
    Calls Tryz.prog 146 #[.pointer (some ⟨g, 0, none⟩), .slice (some ⟨n, 0, none⟩) m m] (w.alloc (.cells (encs (Value.int .i64) xs).toArray t)) (StkEnd g base D fx w vT vF (.tuple #[]) (s.push xs)) :=
  (stacks_pushA _ base g D fx s vT vF _ (stk_alloc h _) xs (arg_made h hn hm) hl).mono (fun e w' ⟨he, vT', vF', m, hS⟩ => ⟨he, vT', vF', ((Mv.refl g w vT vF).alloc _).trans m, hS⟩)
/-- A row made by a call is none of the stacks' own. -/
theorem row_new {w W : World} {base g : Nat} {D : Nat → Prop} {fx : List Value} {s : Sp.St} {vT vF v : Value} {xs : List Int} (h : StkAt w base g D fx s vT vF) (hb : base ≤ w.heap.size) (hr : IntsR W w.heap.size v xs) : TypesR W base (fun k => k ≠ g ∧ some k ≠ vT.ownBlock ∧ some k ≠ vF.ownBlock) v xs := by
  obtain ⟨h1, h2, h3⟩ := stk_lt h
  refine Kd.R_lower (Kd.R_mono (Kd.R_bound hr) (fun k hk => ⟨by have := hk.2.1; omega, fun e => by have := h2 _ e.symm; have := hk.2.1; omega, fun e => by have := h3 _ e.symm; have := hk.2.1; omega⟩)) hb
theorem any_T (s : Sp.St) : s.any.2.T.length ≤ s.T.length := by unfold Sp.St.any; split <;> simp
theorem pop1_T (s : Sp.St) (x : Int) : (s.pop1 x).T.length ≤ s.T.length := by unfold Sp.St.pop1; split <;> exact any_T s
theorem pop_T (s : Sp.St) (l : List Int) : (s.pop l).T.length ≤ s.T.length := by
  unfold Sp.St.pop
  induction l with
  | nil => exact Nat.le_refl _
  | cons a l ih => rw [List.foldr_cons]; exact Nat.le_trans (pop1_T _ _) ih
theorem numP_length (op : Int) : (Sp.numP op).length ≤ 2 := by unfold Sp.numP; repeat' split
                                                               all_goals simp
theorem numR_length (op : Int) : (Sp.numR op).length ≤ 1 := by unfold Sp.numR; split <;> simp
set_option maxRecDepth 100000 in
set_option maxHeartbeats 4000000 in
theorem stacks_plain_A (w : World) (base g : Nat) (D : Nat → Prop) (fx : List Value) (s : Sp.St) (vT vF : Value) (h : StkAt w base g D fx s vT vF) (hI : Sp.SInv s) (hl : s.T.length + 8 ≤ 1000000) (hbw : base ≤ w.heap.size) (op : Int) (hA : Sp.accB op = true) (hge : 54 ≤ op) (hC : decide (Sp.constT op ≠ 0) = false) (hN : Sp.numB op = false) : Calls Tryz.prog 99 #[.pointer (some ⟨g, 0, none⟩), .int .i64 op] w (StkEnd g base D fx w vT vF (.tuple #[]) (s.plain op)) := by
  have HA : Hid (∀ w, Calls Tryz.prog 88 #[.int .i64 op] w (fun e w' => e = .returned (.tuple #[.int .i64 (Sp.accN op), .int .i64 (Sp.accT op), .bool (Sp.accS op), .bool true]) ∧ w = w')) := Lib.hid (fun w => by have := ops_Access op w; rw [hA] at this; rw [show Sp.accT0 op = Sp.accT op by unfold Sp.accT0; rw [if_pos]; simpa [Sp.accB] using hA] at this; exact this)
  have HC : Hid (∀ w, Calls Tryz.prog 152 #[.int .i64 op] w (fun e w' => e = .returned (.tuple #[.int .i64 (Sp.constT op), .bool false]) ∧ w = w')) := Lib.hid (fun w => by have := ops_Const op w; rw [hC] at this; exact this)
  have HN : Hid (∀ w, Calls Tryz.prog 153 #[.int .i64 op] w (SigEnd false (Sp.numP op) (Sp.numR op) w)) := Lib.hid (fun w => by have := ops_Numeric op w; rw [hN] at this; exact this)
  have HP := Lib.hid (show s.plain op = s.pop [127, Sp.accT op] by unfold Sp.St.plain; rw [if_pos (by simp [hA, hge])])
  have HS := Lib.hid h; have HI := Lib.hid hI; have HBW := Lib.hid hbw; have HLL := Lib.hid hl
  clear h hI hA hC hN hbw hl
  go_enter Tryz.func99, Tryz.ntmps99
  go_wp2_with (first | ((go_at_call 88); (with_reducible refine (HA.out _).mono ?_); rintro e w' ⟨rfl, rfl⟩) | ((go_at_call 152); (with_reducible refine (HC.out _).mono ?_); rintro e w' ⟨rfl, rfl⟩) | ((go_at_call 153); (with_reducible refine (HN.out _).mono ?_); rintro e w1 ⟨v1, v2, rfl, r1, r2, hb⟩; obtain ⟨A1, c1, rfl⟩ := Kd.R_slice r1; obtain ⟨A2, c2, rfl⟩ := Kd.R_slice r2; have HR1 := Lib.hid r1; have HR2 := Lib.hid r2; have HB := Lib.hid hb; clear r1 r2 hb))
  have h2 : StkAt (w1.alloc (.cells #[.slice A1 (Sp.numP op).length c1, .slice A2 (Sp.numR op).length c2] 178)) base g D fx s vT vF := stk_alloc (stk_below HS.out HB.out) _
  have m2 : Mv g w (w1.alloc (.cells #[.slice A1 (Sp.numP op).length c1, .slice A2 (Sp.numR op).length c2] 178)) vT vF vT vF := (Mv.of_below HB.out).alloc _
  have q1 : TypesR (w1.alloc (.cells #[.slice A1 (Sp.numP op).length c1, .slice A2 (Sp.numR op).length c2] 178)) base (fun k => k ≠ g ∧ some k ≠ vT.ownBlock ∧ some k ≠ vF.ownBlock) _ _ := Kd.R_alloc (row_new HS.out HBW.out HR1.out) _
  have q2 : TypesR (w1.alloc (.cells #[.slice A1 (Sp.numP op).length c1, .slice A2 (Sp.numR op).length c2] 178)) base (fun k => k ≠ g ∧ some k ≠ vT.ownBlock ∧ some k ≠ vF.ownBlock) _ _ := Kd.R_alloc (row_new HS.out HBW.out HR2.out) _
  have z2 := heap_alloc_new w1 (.cells #[.slice A1 (Sp.numP op).length c1, .slice A2 (Sp.numR op).length c2] 178)
  have hsz : (w1.alloc (.cells #[.slice A1 (Sp.numP op).length c1, .slice A2 (Sp.numR op).length c2] 178)).heap.size = w1.heap.size + 1 := by simp
  have hw1 : w.heap.size ≤ w1.heap.size := HB.out.size
  generalize w1.alloc (.cells #[.slice A1 (Sp.numP op).length c1, .slice A2 (Sp.numR op).length c2] 178) = W at h2 m2 q1 q2 z2 hsz ⊢
  refine (stacks_pop_made [127, Sp.accT op] h2 HI.out (hsz.symm) rfl (by simp)).mono ?_
  rintro e W3 ⟨rfl, vT3, vF3, m3, h3⟩
  go_wp2_with fail
  go_end0
  refine ⟨rfl, vT3, vF3, (m2.trans m3), ?_⟩
  rw [HP.out]
  exact h3
set_option maxRecDepth 100000 in
set_option maxHeartbeats 4000000 in
theorem stacks_plain_B (w : World) (base g : Nat) (D : Nat → Prop) (fx : List Value) (s : Sp.St) (vT vF : Value) (h : StkAt w base g D fx s vT vF) (hI : Sp.SInv s) (hl : s.T.length + 8 ≤ 1000000) (hbw : base ≤ w.heap.size) (op : Int) (hA : Sp.accB op = true) (hge : ¬ 54 ≤ op) (hC : decide (Sp.constT op ≠ 0) = false) (hN : Sp.numB op = false) : Calls Tryz.prog 99 #[.pointer (some ⟨g, 0, none⟩), .int .i64 op] w (StkEnd g base D fx w vT vF (.tuple #[]) (s.plain op)) := by
  have HA : Hid (∀ w, Calls Tryz.prog 88 #[.int .i64 op] w (fun e w' => e = .returned (.tuple #[.int .i64 (Sp.accN op), .int .i64 (Sp.accT op), .bool (Sp.accS op), .bool true]) ∧ w = w')) := Lib.hid (fun w => by have := ops_Access op w; rw [hA] at this; rw [show Sp.accT0 op = Sp.accT op by unfold Sp.accT0; rw [if_pos]; simpa [Sp.accB] using hA] at this; exact this)
  have HC : Hid (∀ w, Calls Tryz.prog 152 #[.int .i64 op] w (fun e w' => e = .returned (.tuple #[.int .i64 (Sp.constT op), .bool false]) ∧ w = w')) := Lib.hid (fun w => by have := ops_Const op w; rw [hC] at this; exact this)
  have HN : Hid (∀ w, Calls Tryz.prog 153 #[.int .i64 op] w (SigEnd false (Sp.numP op) (Sp.numR op) w)) := Lib.hid (fun w => by have := ops_Numeric op w; rw [hN] at this; exact this)
  have HP := Lib.hid (show s.plain op = (s.pop [127]).push [Sp.accT op] by unfold Sp.St.plain; rw [if_neg (by simp [hge]), if_pos hA])
  have HS := Lib.hid h; have HI := Lib.hid hI; have HBW := Lib.hid hbw; have HLL := Lib.hid hl
  clear h hI hA hC hN hbw hl
  go_enter Tryz.func99, Tryz.ntmps99
  go_wp2_with (first | ((go_at_call 88); (with_reducible refine (HA.out _).mono ?_); rintro e w' ⟨rfl, rfl⟩) | ((go_at_call 152); (with_reducible refine (HC.out _).mono ?_); rintro e w' ⟨rfl, rfl⟩) | ((go_at_call 153); (with_reducible refine (HN.out _).mono ?_); rintro e w1 ⟨v1, v2, rfl, r1, r2, hb⟩; obtain ⟨A1, c1, rfl⟩ := Kd.R_slice r1; obtain ⟨A2, c2, rfl⟩ := Kd.R_slice r2; have HR1 := Lib.hid r1; have HR2 := Lib.hid r2; have HB := Lib.hid hb; clear r1 r2 hb))
  have h2 : StkAt (w1.alloc (.cells #[.slice A1 (Sp.numP op).length c1, .slice A2 (Sp.numR op).length c2] 178)) base g D fx s vT vF := stk_alloc (stk_below HS.out HB.out) _
  have m2 : Mv g w (w1.alloc (.cells #[.slice A1 (Sp.numP op).length c1, .slice A2 (Sp.numR op).length c2] 178)) vT vF vT vF := (Mv.of_below HB.out).alloc _
  have q1 : TypesR (w1.alloc (.cells #[.slice A1 (Sp.numP op).length c1, .slice A2 (Sp.numR op).length c2] 178)) base (fun k => k ≠ g ∧ some k ≠ vT.ownBlock ∧ some k ≠ vF.ownBlock) _ _ := Kd.R_alloc (row_new HS.out HBW.out HR1.out) _
  have q2 : TypesR (w1.alloc (.cells #[.slice A1 (Sp.numP op).length c1, .slice A2 (Sp.numR op).length c2] 178)) base (fun k => k ≠ g ∧ some k ≠ vT.ownBlock ∧ some k ≠ vF.ownBlock) _ _ := Kd.R_alloc (row_new HS.out HBW.out HR2.out) _
  have z2 := heap_alloc_new w1 (.cells #[.slice A1 (Sp.numP op).length c1, .slice A2 (Sp.numR op).length c2] 178)
  have hsz : (w1.alloc (.cells #[.slice A1 (Sp.numP op).length c1, .slice A2 (Sp.numR op).length c2] 178)).heap.size = w1.heap.size + 1 := by simp
  have hw1 : w.heap.size ≤ w1.heap.size := HB.out.size
  generalize w1.alloc (.cells #[.slice A1 (Sp.numP op).length c1, .slice A2 (Sp.numR op).length c2] 178) = W at h2 m2 q1 q2 z2 hsz ⊢
  refine (stacks_pop_made [127] h2 HI.out (hsz.symm) rfl (by simp)).mono ?_
  rintro e W3 ⟨rfl, vT3, vF3, m3, h3⟩
  clear z2 q1 q2
  go_wp2_with fail
  refine (stacks_push_made [Sp.accT op] h3 (rfl) rfl (by have := HLL.out; have t0 := pop_T s [127]; simp; omega)).mono ?_
  rintro e W4 ⟨rfl, vT4, vF4, m4, h4⟩
  go_wp2_with fail
  go_end0
  refine ⟨rfl, vT4, vF4, ((m2.trans m3).trans m4), ?_⟩
  rw [HP.out]
  exact h4
set_option maxRecDepth 100000 in
set_option maxHeartbeats 4000000 in
theorem stacks_plain_C (w : World) (base g : Nat) (D : Nat → Prop) (fx : List Value) (s : Sp.St) (vT vF : Value) (h : StkAt w base g D fx s vT vF) (hI : Sp.SInv s) (hl : s.T.length + 8 ≤ 1000000) (hbw : base ≤ w.heap.size) (op : Int) (hA : Sp.accB op = false) (hC : decide (Sp.constT op ≠ 0) = true) (hN : Sp.numB op = false) : Calls Tryz.prog 99 #[.pointer (some ⟨g, 0, none⟩), .int .i64 op] w (StkEnd g base D fx w vT vF (.tuple #[]) (s.plain op)) := by
  have HA : Hid (∀ w, Calls Tryz.prog 88 #[.int .i64 op] w (fun e w' => e = .returned (.tuple #[.int .i64 (Sp.accN op), .int .i64 (Sp.accT0 op), .bool (Sp.accS op), .bool false]) ∧ w = w')) := Lib.hid (fun w => by have := ops_Access op w; rw [hA] at this; exact this)
  have HC : Hid (∀ w, Calls Tryz.prog 152 #[.int .i64 op] w (fun e w' => e = .returned (.tuple #[.int .i64 (Sp.constT op), .bool true]) ∧ w = w')) := Lib.hid (fun w => by have := ops_Const op w; rw [hC] at this; exact this)
  have HN : Hid (∀ w, Calls Tryz.prog 153 #[.int .i64 op] w (SigEnd false (Sp.numP op) (Sp.numR op) w)) := Lib.hid (fun w => by have := ops_Numeric op w; rw [hN] at this; exact this)
  have HP := Lib.hid (show s.plain op = s.push [Sp.constT op] by unfold Sp.St.plain; rw [if_neg (by simp [hA]), if_neg (by simp [hA])]; rw [if_pos (by simpa using hC)])
  have HS := Lib.hid h; have HI := Lib.hid hI; have HBW := Lib.hid hbw; have HLL := Lib.hid hl
  clear h hI hA hC hN hbw hl
  go_enter Tryz.func99, Tryz.ntmps99
  go_wp2_with (first | ((go_at_call 88); (with_reducible refine (HA.out _).mono ?_); rintro e w' ⟨rfl, rfl⟩) | ((go_at_call 152); (with_reducible refine (HC.out _).mono ?_); rintro e w' ⟨rfl, rfl⟩) | ((go_at_call 153); (with_reducible refine (HN.out _).mono ?_); rintro e w1 ⟨v1, v2, rfl, r1, r2, hb⟩; obtain ⟨A1, c1, rfl⟩ := Kd.R_slice r1; obtain ⟨A2, c2, rfl⟩ := Kd.R_slice r2; have HR1 := Lib.hid r1; have HR2 := Lib.hid r2; have HB := Lib.hid hb; clear r1 r2 hb))
  have h2 : StkAt (w1.alloc (.cells #[.slice A1 (Sp.numP op).length c1, .slice A2 (Sp.numR op).length c2] 178)) base g D fx s vT vF := stk_alloc (stk_below HS.out HB.out) _
  have m2 : Mv g w (w1.alloc (.cells #[.slice A1 (Sp.numP op).length c1, .slice A2 (Sp.numR op).length c2] 178)) vT vF vT vF := (Mv.of_below HB.out).alloc _
  have q1 : TypesR (w1.alloc (.cells #[.slice A1 (Sp.numP op).length c1, .slice A2 (Sp.numR op).length c2] 178)) base (fun k => k ≠ g ∧ some k ≠ vT.ownBlock ∧ some k ≠ vF.ownBlock) _ _ := Kd.R_alloc (row_new HS.out HBW.out HR1.out) _
  have q2 : TypesR (w1.alloc (.cells #[.slice A1 (Sp.numP op).length c1, .slice A2 (Sp.numR op).length c2] 178)) base (fun k => k ≠ g ∧ some k ≠ vT.ownBlock ∧ some k ≠ vF.ownBlock) _ _ := Kd.R_alloc (row_new HS.out HBW.out HR2.out) _
  have z2 := heap_alloc_new w1 (.cells #[.slice A1 (Sp.numP op).length c1, .slice A2 (Sp.numR op).length c2] 178)
  have hsz : (w1.alloc (.cells #[.slice A1 (Sp.numP op).length c1, .slice A2 (Sp.numR op).length c2] 178)).heap.size = w1.heap.size + 1 := by simp
  have hw1 : w.heap.size ≤ w1.heap.size := HB.out.size
  generalize w1.alloc (.cells #[.slice A1 (Sp.numP op).length c1, .slice A2 (Sp.numR op).length c2] 178) = W at h2 m2 q1 q2 z2 hsz ⊢
  refine (stacks_push_made [Sp.constT op] h2 (hsz.symm) rfl (by have := HLL.out; simp; omega)).mono ?_
  rintro e W3 ⟨rfl, vT3, vF3, m3, h3⟩
  go_wp2_with fail
  go_end0
  refine ⟨rfl, vT3, vF3, (m2.trans m3), ?_⟩
  rw [HP.out]
  exact h3
set_option maxRecDepth 100000 in
set_option maxHeartbeats 4000000 in
theorem stacks_plain_D (w : World) (base g : Nat) (D : Nat → Prop) (fx : List Value) (s : Sp.St) (vT vF : Value) (h : StkAt w base g D fx s vT vF) (hI : Sp.SInv s) (hl : s.T.length + 8 ≤ 1000000) (hbw : base ≤ w.heap.size) (op : Int) (hA : Sp.accB op = false) (hC : decide (Sp.constT op ≠ 0) = false) (hN : Sp.numB op = true) : Calls Tryz.prog 99 #[.pointer (some ⟨g, 0, none⟩), .int .i64 op] w (StkEnd g base D fx w vT vF (.tuple #[]) (s.plain op)) := by
  have HA : Hid (∀ w, Calls Tryz.prog 88 #[.int .i64 op] w (fun e w' => e = .returned (.tuple #[.int .i64 (Sp.accN op), .int .i64 (Sp.accT0 op), .bool (Sp.accS op), .bool false]) ∧ w = w')) := Lib.hid (fun w => by have := ops_Access op w; rw [hA] at this; exact this)
  have HC : Hid (∀ w, Calls Tryz.prog 152 #[.int .i64 op] w (fun e w' => e = .returned (.tuple #[.int .i64 (Sp.constT op), .bool false]) ∧ w = w')) := Lib.hid (fun w => by have := ops_Const op w; rw [hC] at this; exact this)
  have HN : Hid (∀ w, Calls Tryz.prog 153 #[.int .i64 op] w (SigEnd true (Sp.numP op) (Sp.numR op) w)) := Lib.hid (fun w => by have := ops_Numeric op w; rw [hN] at this; exact this)
  have HP := Lib.hid (show s.plain op = (s.pop (Sp.numP op)).push (Sp.numR op) by unfold Sp.St.plain; rw [if_neg (by simp [hA]), if_neg (by simp [hA])]; rw [if_neg (by simpa using hC)]; rw [if_pos hN])
  have HS := Lib.hid h; have HI := Lib.hid hI; have HBW := Lib.hid hbw; have HLL := Lib.hid hl
  clear h hI hA hC hN hbw hl
  go_enter Tryz.func99, Tryz.ntmps99
  go_wp2_with (first | ((go_at_call 88); (with_reducible refine (HA.out _).mono ?_); rintro e w' ⟨rfl, rfl⟩) | ((go_at_call 152); (with_reducible refine (HC.out _).mono ?_); rintro e w' ⟨rfl, rfl⟩) | ((go_at_call 153); (with_reducible refine (HN.out _).mono ?_); rintro e w1 ⟨v1, v2, rfl, r1, r2, hb⟩; obtain ⟨A1, c1, rfl⟩ := Kd.R_slice r1; obtain ⟨A2, c2, rfl⟩ := Kd.R_slice r2; have HR1 := Lib.hid r1; have HR2 := Lib.hid r2; have HB := Lib.hid hb; clear r1 r2 hb))
  have h2 : StkAt (w1.alloc (.cells #[.slice A1 (Sp.numP op).length c1, .slice A2 (Sp.numR op).length c2] 178)) base g D fx s vT vF := stk_alloc (stk_below HS.out HB.out) _
  have m2 : Mv g w (w1.alloc (.cells #[.slice A1 (Sp.numP op).length c1, .slice A2 (Sp.numR op).length c2] 178)) vT vF vT vF := (Mv.of_below HB.out).alloc _
  have q1 : TypesR (w1.alloc (.cells #[.slice A1 (Sp.numP op).length c1, .slice A2 (Sp.numR op).length c2] 178)) base (fun k => k ≠ g ∧ some k ≠ vT.ownBlock ∧ some k ≠ vF.ownBlock) _ _ := Kd.R_alloc (row_new HS.out HBW.out HR1.out) _
  have q2 : TypesR (w1.alloc (.cells #[.slice A1 (Sp.numP op).length c1, .slice A2 (Sp.numR op).length c2] 178)) base (fun k => k ≠ g ∧ some k ≠ vT.ownBlock ∧ some k ≠ vF.ownBlock) _ _ := Kd.R_alloc (row_new HS.out HBW.out HR2.out) _
  have z2 := heap_alloc_new w1 (.cells #[.slice A1 (Sp.numP op).length c1, .slice A2 (Sp.numR op).length c2] 178)
  have hsz : (w1.alloc (.cells #[.slice A1 (Sp.numP op).length c1, .slice A2 (Sp.numR op).length c2] 178)).heap.size = w1.heap.size + 1 := by simp
  have hw1 : w.heap.size ≤ w1.heap.size := HB.out.size
  generalize w1.alloc (.cells #[.slice A1 (Sp.numP op).length c1, .slice A2 (Sp.numR op).length c2] 178) = W at h2 m2 q1 q2 z2 hsz ⊢
  refine (stacks_popA W base g D fx s vT vF _ h2 HI.out (Sp.numP op) (arg_row h2 q1) (by have := numP_length op; omega)).mono ?_
  rintro e W3 ⟨rfl, vT3, vF3, m3, h3⟩
  have q2b := row_mv q2 m3 (fun _ hk => hk)
  have zz : W3.heap[w1.heap.size]? = _ := (m3.block w1.heap.size (by omega) (by have := (stk_lt HS.out).1; omega) (fun e => by have := (stk_lt HS.out).2.1 _ e.symm; omega) (fun e => by have := (stk_lt HS.out).2.2 _ e.symm; omega)).trans z2
  have y1 := (blk_cell zz 1).trans rfl
  clear z2 q1 q2
  go_wp2_with fail
  refine (stacks_pushA W3 base g D fx (s.pop (Sp.numP op)) vT3 vF3 _ h3 (Sp.numR op) (arg_row h3 q2b) (by have := HLL.out; have t0 := pop_T s (Sp.numP op); have := numR_length op; omega)).mono ?_
  rintro e W4 ⟨rfl, vT4, vF4, m4, h4⟩
  go_wp2_with fail
  go_end0
  refine ⟨rfl, vT4, vF4, ((m2.trans m3).trans m4), ?_⟩
  rw [HP.out]
  exact h4
set_option maxRecDepth 100000 in
set_option maxHeartbeats 4000000 in
theorem stacks_plain_E (w : World) (base g : Nat) (D : Nat → Prop) (fx : List Value) (s : Sp.St) (vT vF : Value) (h : StkAt w base g D fx s vT vF) (hI : Sp.SInv s) (hl : s.T.length + 8 ≤ 1000000) (hbw : base ≤ w.heap.size) (op : Int) (hA : Sp.accB op = false) (hC : decide (Sp.constT op ≠ 0) = false) (hN : Sp.numB op = false) (h1 : op = 63) (b63 : (op == 63) = true) : Calls Tryz.prog 99 #[.pointer (some ⟨g, 0, none⟩), .int .i64 op] w (StkEnd g base D fx w vT vF (.tuple #[]) (s.plain op)) := by
  have HA : Hid (∀ w, Calls Tryz.prog 88 #[.int .i64 op] w (fun e w' => e = .returned (.tuple #[.int .i64 (Sp.accN op), .int .i64 (Sp.accT0 op), .bool (Sp.accS op), .bool false]) ∧ w = w')) := Lib.hid (fun w => by have := ops_Access op w; rw [hA] at this; exact this)
  have HC : Hid (∀ w, Calls Tryz.prog 152 #[.int .i64 op] w (fun e w' => e = .returned (.tuple #[.int .i64 (Sp.constT op), .bool false]) ∧ w = w')) := Lib.hid (fun w => by have := ops_Const op w; rw [hC] at this; exact this)
  have HN : Hid (∀ w, Calls Tryz.prog 153 #[.int .i64 op] w (SigEnd false (Sp.numP op) (Sp.numR op) w)) := Lib.hid (fun w => by have := ops_Numeric op w; rw [hN] at this; exact this)
  have HP := Lib.hid (show s.plain op = s.push [127] by unfold Sp.St.plain; rw [if_neg (by simp [hA]), if_neg (by simp [hA])]; rw [if_neg (by simpa using hC)]; rw [if_neg (by simp [hN])]; rw [if_pos h1])
  have HS := Lib.hid h; have HI := Lib.hid hI; have HBW := Lib.hid hbw; have HLL := Lib.hid hl
  clear h hI hA hC hN hbw hl h1
  go_enter Tryz.func99, Tryz.ntmps99
  go_wp2_with (first | ((go_at_call 88); (with_reducible refine (HA.out _).mono ?_); rintro e w' ⟨rfl, rfl⟩) | ((go_at_call 152); (with_reducible refine (HC.out _).mono ?_); rintro e w' ⟨rfl, rfl⟩) | ((go_at_call 153); (with_reducible refine (HN.out _).mono ?_); rintro e w1 ⟨v1, v2, rfl, r1, r2, hb⟩; obtain ⟨A1, c1, rfl⟩ := Kd.R_slice r1; obtain ⟨A2, c2, rfl⟩ := Kd.R_slice r2; have HR1 := Lib.hid r1; have HR2 := Lib.hid r2; have HB := Lib.hid hb; clear r1 r2 hb))
  have h2 : StkAt (w1.alloc (.cells #[.slice A1 (Sp.numP op).length c1, .slice A2 (Sp.numR op).length c2] 178)) base g D fx s vT vF := stk_alloc (stk_below HS.out HB.out) _
  have m2 : Mv g w (w1.alloc (.cells #[.slice A1 (Sp.numP op).length c1, .slice A2 (Sp.numR op).length c2] 178)) vT vF vT vF := (Mv.of_below HB.out).alloc _
  have q1 : TypesR (w1.alloc (.cells #[.slice A1 (Sp.numP op).length c1, .slice A2 (Sp.numR op).length c2] 178)) base (fun k => k ≠ g ∧ some k ≠ vT.ownBlock ∧ some k ≠ vF.ownBlock) _ _ := Kd.R_alloc (row_new HS.out HBW.out HR1.out) _
  have q2 : TypesR (w1.alloc (.cells #[.slice A1 (Sp.numP op).length c1, .slice A2 (Sp.numR op).length c2] 178)) base (fun k => k ≠ g ∧ some k ≠ vT.ownBlock ∧ some k ≠ vF.ownBlock) _ _ := Kd.R_alloc (row_new HS.out HBW.out HR2.out) _
  have z2 := heap_alloc_new w1 (.cells #[.slice A1 (Sp.numP op).length c1, .slice A2 (Sp.numR op).length c2] 178)
  have hsz : (w1.alloc (.cells #[.slice A1 (Sp.numP op).length c1, .slice A2 (Sp.numR op).length c2] 178)).heap.size = w1.heap.size + 1 := by simp
  have hw1 : w.heap.size ≤ w1.heap.size := HB.out.size
  generalize w1.alloc (.cells #[.slice A1 (Sp.numP op).length c1, .slice A2 (Sp.numR op).length c2] 178) = W at h2 m2 q1 q2 z2 hsz ⊢
  refine (stacks_push_made [127] h2 (hsz.symm) rfl (by have := HLL.out; simp; omega)).mono ?_
  rintro e W3 ⟨rfl, vT3, vF3, m3, h3⟩
  go_wp2_with fail
  go_end0
  refine ⟨rfl, vT3, vF3, (m2.trans m3), ?_⟩
  rw [HP.out]
  exact h3
set_option maxRecDepth 100000 in
set_option maxHeartbeats 4000000 in
theorem stacks_plain_F (w : World) (base g : Nat) (D : Nat → Prop) (fx : List Value) (s : Sp.St) (vT vF : Value) (h : StkAt w base g D fx s vT vF) (hI : Sp.SInv s) (hl : s.T.length + 8 ≤ 1000000) (hbw : base ≤ w.heap.size) (op : Int) (hA : Sp.accB op = false) (hC : decide (Sp.constT op ≠ 0) = false) (hN : Sp.numB op = false) (h1 : op = 64) (b63 : (op == 63) = false) (b64 : (op == 64) = true) : Calls Tryz.prog 99 #[.pointer (some ⟨g, 0, none⟩), .int .i64 op] w (StkEnd g base D fx w vT vF (.tuple #[]) (s.plain op)) := by
  have HA : Hid (∀ w, Calls Tryz.prog 88 #[.int .i64 op] w (fun e w' => e = .returned (.tuple #[.int .i64 (Sp.accN op), .int .i64 (Sp.accT0 op), .bool (Sp.accS op), .bool false]) ∧ w = w')) := Lib.hid (fun w => by have := ops_Access op w; rw [hA] at this; exact this)
  have HC : Hid (∀ w, Calls Tryz.prog 152 #[.int .i64 op] w (fun e w' => e = .returned (.tuple #[.int .i64 (Sp.constT op), .bool false]) ∧ w = w')) := Lib.hid (fun w => by have := ops_Const op w; rw [hC] at this; exact this)
  have HN : Hid (∀ w, Calls Tryz.prog 153 #[.int .i64 op] w (SigEnd false (Sp.numP op) (Sp.numR op) w)) := Lib.hid (fun w => by have := ops_Numeric op w; rw [hN] at this; exact this)
  have HP := Lib.hid (show s.plain op = (s.pop [127]).push [127] by unfold Sp.St.plain; rw [if_neg (by simp [hA]), if_neg (by simp [hA])]; rw [if_neg (by simpa using hC)]; rw [if_neg (by simp [hN])]; rw [if_neg (by omega), if_pos h1])
  have HS := Lib.hid h; have HI := Lib.hid hI; have HBW := Lib.hid hbw; have HLL := Lib.hid hl
  clear h hI hA hC hN hbw hl h1
  go_enter Tryz.func99, Tryz.ntmps99
  go_wp2_with (first | ((go_at_call 88); (with_reducible refine (HA.out _).mono ?_); rintro e w' ⟨rfl, rfl⟩) | ((go_at_call 152); (with_reducible refine (HC.out _).mono ?_); rintro e w' ⟨rfl, rfl⟩) | ((go_at_call 153); (with_reducible refine (HN.out _).mono ?_); rintro e w1 ⟨v1, v2, rfl, r1, r2, hb⟩; obtain ⟨A1, c1, rfl⟩ := Kd.R_slice r1; obtain ⟨A2, c2, rfl⟩ := Kd.R_slice r2; have HR1 := Lib.hid r1; have HR2 := Lib.hid r2; have HB := Lib.hid hb; clear r1 r2 hb))
  have h2 : StkAt (w1.alloc (.cells #[.slice A1 (Sp.numP op).length c1, .slice A2 (Sp.numR op).length c2] 178)) base g D fx s vT vF := stk_alloc (stk_below HS.out HB.out) _
  have m2 : Mv g w (w1.alloc (.cells #[.slice A1 (Sp.numP op).length c1, .slice A2 (Sp.numR op).length c2] 178)) vT vF vT vF := (Mv.of_below HB.out).alloc _
  have q1 : TypesR (w1.alloc (.cells #[.slice A1 (Sp.numP op).length c1, .slice A2 (Sp.numR op).length c2] 178)) base (fun k => k ≠ g ∧ some k ≠ vT.ownBlock ∧ some k ≠ vF.ownBlock) _ _ := Kd.R_alloc (row_new HS.out HBW.out HR1.out) _
  have q2 : TypesR (w1.alloc (.cells #[.slice A1 (Sp.numP op).length c1, .slice A2 (Sp.numR op).length c2] 178)) base (fun k => k ≠ g ∧ some k ≠ vT.ownBlock ∧ some k ≠ vF.ownBlock) _ _ := Kd.R_alloc (row_new HS.out HBW.out HR2.out) _
  have z2 := heap_alloc_new w1 (.cells #[.slice A1 (Sp.numP op).length c1, .slice A2 (Sp.numR op).length c2] 178)
  have hsz : (w1.alloc (.cells #[.slice A1 (Sp.numP op).length c1, .slice A2 (Sp.numR op).length c2] 178)).heap.size = w1.heap.size + 1 := by simp
  have hw1 : w.heap.size ≤ w1.heap.size := HB.out.size
  generalize w1.alloc (.cells #[.slice A1 (Sp.numP op).length c1, .slice A2 (Sp.numR op).length c2] 178) = W at h2 m2 q1 q2 z2 hsz ⊢
  refine (stacks_pop_made [127] h2 HI.out (hsz.symm) rfl (by simp)).mono ?_
  rintro e W3 ⟨rfl, vT3, vF3, m3, h3⟩
  clear z2 q1 q2
  go_wp2_with fail
  refine (stacks_push_made [127] h3 (rfl) rfl (by have := HLL.out; have t0 := pop_T s [127]; simp; omega)).mono ?_
  rintro e W4 ⟨rfl, vT4, vF4, m4, h4⟩
  go_wp2_with fail
  go_end0
  refine ⟨rfl, vT4, vF4, ((m2.trans m3).trans m4), ?_⟩
  rw [HP.out]
  exact h4
set_option maxRecDepth 100000 in
set_option maxHeartbeats 4000000 in
theorem stacks_plain_G64520 (w : World) (base g : Nat) (D : Nat → Prop) (fx : List Value) (s : Sp.St) (vT vF : Value) (h : StkAt w base g D fx s vT vF) (hI : Sp.SInv s) (hl : s.T.length + 8 ≤ 1000000) (hbw : base ≤ w.heap.size) (op : Int) (hA : Sp.accB op = false) (hC : decide (Sp.constT op ≠ 0) = false) (hN : Sp.numB op = false) (h1 : op = 64520) (b63 : (op == 63) = false) (b64 : (op == 64) = false) (b64520 : (op == 64520) = true) : Calls Tryz.prog 99 #[.pointer (some ⟨g, 0, none⟩), .int .i64 op] w (StkEnd g base D fx w vT vF (.tuple #[]) (s.plain op)) := by
  have HA : Hid (∀ w, Calls Tryz.prog 88 #[.int .i64 op] w (fun e w' => e = .returned (.tuple #[.int .i64 (Sp.accN op), .int .i64 (Sp.accT0 op), .bool (Sp.accS op), .bool false]) ∧ w = w')) := Lib.hid (fun w => by have := ops_Access op w; rw [hA] at this; exact this)
  have HC : Hid (∀ w, Calls Tryz.prog 152 #[.int .i64 op] w (fun e w' => e = .returned (.tuple #[.int .i64 (Sp.constT op), .bool false]) ∧ w = w')) := Lib.hid (fun w => by have := ops_Const op w; rw [hC] at this; exact this)
  have HN : Hid (∀ w, Calls Tryz.prog 153 #[.int .i64 op] w (SigEnd false (Sp.numP op) (Sp.numR op) w)) := Lib.hid (fun w => by have := ops_Numeric op w; rw [hN] at this; exact this)
  have HP := Lib.hid (show s.plain op = s.pop [127, 127, 127] by unfold Sp.St.plain; rw [if_neg (by simp [hA]), if_neg (by simp [hA])]; rw [if_neg (by simpa using hC)]; rw [if_neg (by simp [hN])]; rw [if_neg (by omega), if_neg (by omega), if_pos (by omega)])
  have HS := Lib.hid h; have HI := Lib.hid hI; have HBW := Lib.hid hbw; have HLL := Lib.hid hl
  clear h hI hA hC hN hbw hl h1
  go_enter Tryz.func99, Tryz.ntmps99
  go_wp2_with (first | ((go_at_call 88); (with_reducible refine (HA.out _).mono ?_); rintro e w' ⟨rfl, rfl⟩) | ((go_at_call 152); (with_reducible refine (HC.out _).mono ?_); rintro e w' ⟨rfl, rfl⟩) | ((go_at_call 153); (with_reducible refine (HN.out _).mono ?_); rintro e w1 ⟨v1, v2, rfl, r1, r2, hb⟩; obtain ⟨A1, c1, rfl⟩ := Kd.R_slice r1; obtain ⟨A2, c2, rfl⟩ := Kd.R_slice r2; have HR1 := Lib.hid r1; have HR2 := Lib.hid r2; have HB := Lib.hid hb; clear r1 r2 hb))
  have h2 : StkAt (w1.alloc (.cells #[.slice A1 (Sp.numP op).length c1, .slice A2 (Sp.numR op).length c2] 178)) base g D fx s vT vF := stk_alloc (stk_below HS.out HB.out) _
  have m2 : Mv g w (w1.alloc (.cells #[.slice A1 (Sp.numP op).length c1, .slice A2 (Sp.numR op).length c2] 178)) vT vF vT vF := (Mv.of_below HB.out).alloc _
  have q1 : TypesR (w1.alloc (.cells #[.slice A1 (Sp.numP op).length c1, .slice A2 (Sp.numR op).length c2] 178)) base (fun k => k ≠ g ∧ some k ≠ vT.ownBlock ∧ some k ≠ vF.ownBlock) _ _ := Kd.R_alloc (row_new HS.out HBW.out HR1.out) _
  have q2 : TypesR (w1.alloc (.cells #[.slice A1 (Sp.numP op).length c1, .slice A2 (Sp.numR op).length c2] 178)) base (fun k => k ≠ g ∧ some k ≠ vT.ownBlock ∧ some k ≠ vF.ownBlock) _ _ := Kd.R_alloc (row_new HS.out HBW.out HR2.out) _
  have z2 := heap_alloc_new w1 (.cells #[.slice A1 (Sp.numP op).length c1, .slice A2 (Sp.numR op).length c2] 178)
  have hsz : (w1.alloc (.cells #[.slice A1 (Sp.numP op).length c1, .slice A2 (Sp.numR op).length c2] 178)).heap.size = w1.heap.size + 1 := by simp
  have hw1 : w.heap.size ≤ w1.heap.size := HB.out.size
  generalize w1.alloc (.cells #[.slice A1 (Sp.numP op).length c1, .slice A2 (Sp.numR op).length c2] 178) = W at h2 m2 q1 q2 z2 hsz ⊢
  refine (stacks_pop_made [127, 127, 127] h2 HI.out (hsz.symm) rfl (by simp)).mono ?_
  rintro e W3 ⟨rfl, vT3, vF3, m3, h3⟩
  go_wp2_with fail
  go_end0
  refine ⟨rfl, vT3, vF3, (m2.trans m3), ?_⟩
  rw [HP.out]
  exact h3
set_option maxRecDepth 100000 in
set_option maxHeartbeats 4000000 in
theorem stacks_plain_G64522 (w : World) (base g : Nat) (D : Nat → Prop) (fx : List Value) (s : Sp.St) (vT vF : Value) (h : StkAt w base g D fx s vT vF) (hI : Sp.SInv s) (hl : s.T.length + 8 ≤ 1000000) (hbw : base ≤ w.heap.size) (op : Int) (hA : Sp.accB op = false) (hC : decide (Sp.constT op ≠ 0) = false) (hN : Sp.numB op = false) (h1 : op = 64522) (b63 : (op == 63) = false) (b64 : (op == 64) = false) (b64520 : (op == 64520) = false) (b64522 : (op == 64522) = true) : Calls Tryz.prog 99 #[.pointer (some ⟨g, 0, none⟩), .int .i64 op] w (StkEnd g base D fx w vT vF (.tuple #[]) (s.plain op)) := by
  have HA : Hid (∀ w, Calls Tryz.prog 88 #[.int .i64 op] w (fun e w' => e = .returned (.tuple #[.int .i64 (Sp.accN op), .int .i64 (Sp.accT0 op), .bool (Sp.accS op), .bool false]) ∧ w = w')) := Lib.hid (fun w => by have := ops_Access op w; rw [hA] at this; exact this)
  have HC : Hid (∀ w, Calls Tryz.prog 152 #[.int .i64 op] w (fun e w' => e = .returned (.tuple #[.int .i64 (Sp.constT op), .bool false]) ∧ w = w')) := Lib.hid (fun w => by have := ops_Const op w; rw [hC] at this; exact this)
  have HN : Hid (∀ w, Calls Tryz.prog 153 #[.int .i64 op] w (SigEnd false (Sp.numP op) (Sp.numR op) w)) := Lib.hid (fun w => by have := ops_Numeric op w; rw [hN] at this; exact this)
  have HP := Lib.hid (show s.plain op = s.pop [127, 127, 127] by unfold Sp.St.plain; rw [if_neg (by simp [hA]), if_neg (by simp [hA])]; rw [if_neg (by simpa using hC)]; rw [if_neg (by simp [hN])]; rw [if_neg (by omega), if_neg (by omega), if_pos (by omega)])
  have HS := Lib.hid h; have HI := Lib.hid hI; have HBW := Lib.hid hbw; have HLL := Lib.hid hl
  clear h hI hA hC hN hbw hl h1
  go_enter Tryz.func99, Tryz.ntmps99
  go_wp2_with (first | ((go_at_call 88); (with_reducible refine (HA.out _).mono ?_); rintro e w' ⟨rfl, rfl⟩) | ((go_at_call 152); (with_reducible refine (HC.out _).mono ?_); rintro e w' ⟨rfl, rfl⟩) | ((go_at_call 153); (with_reducible refine (HN.out _).mono ?_); rintro e w1 ⟨v1, v2, rfl, r1, r2, hb⟩; obtain ⟨A1, c1, rfl⟩ := Kd.R_slice r1; obtain ⟨A2, c2, rfl⟩ := Kd.R_slice r2; have HR1 := Lib.hid r1; have HR2 := Lib.hid r2; have HB := Lib.hid hb; clear r1 r2 hb))
  have h2 : StkAt (w1.alloc (.cells #[.slice A1 (Sp.numP op).length c1, .slice A2 (Sp.numR op).length c2] 178)) base g D fx s vT vF := stk_alloc (stk_below HS.out HB.out) _
  have m2 : Mv g w (w1.alloc (.cells #[.slice A1 (Sp.numP op).length c1, .slice A2 (Sp.numR op).length c2] 178)) vT vF vT vF := (Mv.of_below HB.out).alloc _
  have q1 : TypesR (w1.alloc (.cells #[.slice A1 (Sp.numP op).length c1, .slice A2 (Sp.numR op).length c2] 178)) base (fun k => k ≠ g ∧ some k ≠ vT.ownBlock ∧ some k ≠ vF.ownBlock) _ _ := Kd.R_alloc (row_new HS.out HBW.out HR1.out) _
  have q2 : TypesR (w1.alloc (.cells #[.slice A1 (Sp.numP op).length c1, .slice A2 (Sp.numR op).length c2] 178)) base (fun k => k ≠ g ∧ some k ≠ vT.ownBlock ∧ some k ≠ vF.ownBlock) _ _ := Kd.R_alloc (row_new HS.out HBW.out HR2.out) _
  have z2 := heap_alloc_new w1 (.cells #[.slice A1 (Sp.numP op).length c1, .slice A2 (Sp.numR op).length c2] 178)
  have hsz : (w1.alloc (.cells #[.slice A1 (Sp.numP op).length c1, .slice A2 (Sp.numR op).length c2] 178)).heap.size = w1.heap.size + 1 := by simp
  have hw1 : w.heap.size ≤ w1.heap.size := HB.out.size
  generalize w1.alloc (.cells #[.slice A1 (Sp.numP op).length c1, .slice A2 (Sp.numR op).length c2] 178) = W at h2 m2 q1 q2 z2 hsz ⊢
  refine (stacks_pop_made [127, 127, 127] h2 HI.out (hsz.symm) rfl (by simp)).mono ?_
  rintro e W3 ⟨rfl, vT3, vF3, m3, h3⟩
  go_wp2_with fail
  go_end0
  refine ⟨rfl, vT3, vF3, (m2.trans m3), ?_⟩
  rw [HP.out]
  exact h3
set_option maxRecDepth 100000 in
set_option maxHeartbeats 4000000 in
theorem stacks_plain_G64523 (w : World) (base g : Nat) (D : Nat → Prop) (fx : List Value) (s : Sp.St) (vT vF : Value) (h : StkAt w base g D fx s vT vF) (hI : Sp.SInv s) (hl : s.T.length + 8 ≤ 1000000) (hbw : base ≤ w.heap.size) (op : Int) (hA : Sp.accB op = false) (hC : decide (Sp.constT op ≠ 0) = false) (hN : Sp.numB op = false) (h1 : op = 64523) (b63 : (op == 63) = false) (b64 : (op == 64) = false) (b64520 : (op == 64520) = false) (b64522 : (op == 64522) = false) (b64523 : (op == 64523) = true) : Calls Tryz.prog 99 #[.pointer (some ⟨g, 0, none⟩), .int .i64 op] w (StkEnd g base D fx w vT vF (.tuple #[]) (s.plain op)) := by
  have HA : Hid (∀ w, Calls Tryz.prog 88 #[.int .i64 op] w (fun e w' => e = .returned (.tuple #[.int .i64 (Sp.accN op), .int .i64 (Sp.accT0 op), .bool (Sp.accS op), .bool false]) ∧ w = w')) := Lib.hid (fun w => by have := ops_Access op w; rw [hA] at this; exact this)
  have HC : Hid (∀ w, Calls Tryz.prog 152 #[.int .i64 op] w (fun e w' => e = .returned (.tuple #[.int .i64 (Sp.constT op), .bool false]) ∧ w = w')) := Lib.hid (fun w => by have := ops_Const op w; rw [hC] at this; exact this)
  have HN : Hid (∀ w, Calls Tryz.prog 153 #[.int .i64 op] w (SigEnd false (Sp.numP op) (Sp.numR op) w)) := Lib.hid (fun w => by have := ops_Numeric op w; rw [hN] at this; exact this)
  have HP := Lib.hid (show s.plain op = s.pop [127, 127, 127] by unfold Sp.St.plain; rw [if_neg (by simp [hA]), if_neg (by simp [hA])]; rw [if_neg (by simpa using hC)]; rw [if_neg (by simp [hN])]; rw [if_neg (by omega), if_neg (by omega), if_pos (by omega)])
  have HS := Lib.hid h; have HI := Lib.hid hI; have HBW := Lib.hid hbw; have HLL := Lib.hid hl
  clear h hI hA hC hN hbw hl h1
  go_enter Tryz.func99, Tryz.ntmps99
  go_wp2_with (first | ((go_at_call 88); (with_reducible refine (HA.out _).mono ?_); rintro e w' ⟨rfl, rfl⟩) | ((go_at_call 152); (with_reducible refine (HC.out _).mono ?_); rintro e w' ⟨rfl, rfl⟩) | ((go_at_call 153); (with_reducible refine (HN.out _).mono ?_); rintro e w1 ⟨v1, v2, rfl, r1, r2, hb⟩; obtain ⟨A1, c1, rfl⟩ := Kd.R_slice r1; obtain ⟨A2, c2, rfl⟩ := Kd.R_slice r2; have HR1 := Lib.hid r1; have HR2 := Lib.hid r2; have HB := Lib.hid hb; clear r1 r2 hb))
  have h2 : StkAt (w1.alloc (.cells #[.slice A1 (Sp.numP op).length c1, .slice A2 (Sp.numR op).length c2] 178)) base g D fx s vT vF := stk_alloc (stk_below HS.out HB.out) _
  have m2 : Mv g w (w1.alloc (.cells #[.slice A1 (Sp.numP op).length c1, .slice A2 (Sp.numR op).length c2] 178)) vT vF vT vF := (Mv.of_below HB.out).alloc _
  have q1 : TypesR (w1.alloc (.cells #[.slice A1 (Sp.numP op).length c1, .slice A2 (Sp.numR op).length c2] 178)) base (fun k => k ≠ g ∧ some k ≠ vT.ownBlock ∧ some k ≠ vF.ownBlock) _ _ := Kd.R_alloc (row_new HS.out HBW.out HR1.out) _
  have q2 : TypesR (w1.alloc (.cells #[.slice A1 (Sp.numP op).length c1, .slice A2 (Sp.numR op).length c2] 178)) base (fun k => k ≠ g ∧ some k ≠ vT.ownBlock ∧ some k ≠ vF.ownBlock) _ _ := Kd.R_alloc (row_new HS.out HBW.out HR2.out) _
  have z2 := heap_alloc_new w1 (.cells #[.slice A1 (Sp.numP op).length c1, .slice A2 (Sp.numR op).length c2] 178)
  have hsz : (w1.alloc (.cells #[.slice A1 (Sp.numP op).length c1, .slice A2 (Sp.numR op).length c2] 178)).heap.size = w1.heap.size + 1 := by simp
  have hw1 : w.heap.size ≤ w1.heap.size := HB.out.size
  generalize w1.alloc (.cells #[.slice A1 (Sp.numP op).length c1, .slice A2 (Sp.numR op).length c2] 178) = W at h2 m2 q1 q2 z2 hsz ⊢
  refine (stacks_pop_made [127, 127, 127] h2 HI.out (hsz.symm) rfl (by simp)).mono ?_
  rintro e W3 ⟨rfl, vT3, vF3, m3, h3⟩
  go_wp2_with fail
  go_end0
  refine ⟨rfl, vT3, vF3, (m2.trans m3), ?_⟩
  rw [HP.out]
  exact h3
set_option maxRecDepth 100000 in
set_option maxHeartbeats 4000000 in
theorem stacks_plain_H (w : World) (base g : Nat) (D : Nat → Prop) (fx : List Value) (s : Sp.St) (vT vF : Value) (h : StkAt w base g D fx s vT vF) (hI : Sp.SInv s) (hl : s.T.length + 8 ≤ 1000000) (hbw : base ≤ w.heap.size) (op : Int) (hA : Sp.accB op = false) (hC : decide (Sp.constT op ≠ 0) = false) (hN : Sp.numB op = false) (h1 : ¬ op = 63) (h2 : ¬ op = 64) (h3 : ¬ op = 64520) (h4 : ¬ op = 64522) (h5 : ¬ op = 64523) (b63 : (op == 63) = false) (b64 : (op == 64) = false) (b64520 : (op == 64520) = false) (b64522 : (op == 64522) = false) (b64523 : (op == 64523) = false) : Calls Tryz.prog 99 #[.pointer (some ⟨g, 0, none⟩), .int .i64 op] w (StkEnd g base D fx w vT vF (.tuple #[]) (s.plain op)) := by
  have HA : Hid (∀ w, Calls Tryz.prog 88 #[.int .i64 op] w (fun e w' => e = .returned (.tuple #[.int .i64 (Sp.accN op), .int .i64 (Sp.accT0 op), .bool (Sp.accS op), .bool false]) ∧ w = w')) := Lib.hid (fun w => by have := ops_Access op w; rw [hA] at this; exact this)
  have HC : Hid (∀ w, Calls Tryz.prog 152 #[.int .i64 op] w (fun e w' => e = .returned (.tuple #[.int .i64 (Sp.constT op), .bool false]) ∧ w = w')) := Lib.hid (fun w => by have := ops_Const op w; rw [hC] at this; exact this)
  have HN : Hid (∀ w, Calls Tryz.prog 153 #[.int .i64 op] w (SigEnd false (Sp.numP op) (Sp.numR op) w)) := Lib.hid (fun w => by have := ops_Numeric op w; rw [hN] at this; exact this)
  have HP := Lib.hid (show s.plain op = s by unfold Sp.St.plain; rw [if_neg (by simp [hA]), if_neg (by simp [hA])]; rw [if_neg (by simpa using hC)]; rw [if_neg (by simp [hN])]; rw [if_neg h1, if_neg h2, if_neg (by omega)])
  have HS := Lib.hid h; have HI := Lib.hid hI; have HBW := Lib.hid hbw; have HLL := Lib.hid hl
  clear h hI hA hC hN hbw hl h1 h2 h3 h4 h5
  go_enter Tryz.func99, Tryz.ntmps99
  go_wp2_with (first | ((go_at_call 88); (with_reducible refine (HA.out _).mono ?_); rintro e w' ⟨rfl, rfl⟩) | ((go_at_call 152); (with_reducible refine (HC.out _).mono ?_); rintro e w' ⟨rfl, rfl⟩) | ((go_at_call 153); (with_reducible refine (HN.out _).mono ?_); rintro e w1 ⟨v1, v2, rfl, r1, r2, hb⟩; obtain ⟨A1, c1, rfl⟩ := Kd.R_slice r1; obtain ⟨A2, c2, rfl⟩ := Kd.R_slice r2; have HR1 := Lib.hid r1; have HR2 := Lib.hid r2; have HB := Lib.hid hb; clear r1 r2 hb))
  have h2 : StkAt (w1.alloc (.cells #[.slice A1 (Sp.numP op).length c1, .slice A2 (Sp.numR op).length c2] 178)) base g D fx s vT vF := stk_alloc (stk_below HS.out HB.out) _
  have m2 : Mv g w (w1.alloc (.cells #[.slice A1 (Sp.numP op).length c1, .slice A2 (Sp.numR op).length c2] 178)) vT vF vT vF := (Mv.of_below HB.out).alloc _
  have q1 : TypesR (w1.alloc (.cells #[.slice A1 (Sp.numP op).length c1, .slice A2 (Sp.numR op).length c2] 178)) base (fun k => k ≠ g ∧ some k ≠ vT.ownBlock ∧ some k ≠ vF.ownBlock) _ _ := Kd.R_alloc (row_new HS.out HBW.out HR1.out) _
  have q2 : TypesR (w1.alloc (.cells #[.slice A1 (Sp.numP op).length c1, .slice A2 (Sp.numR op).length c2] 178)) base (fun k => k ≠ g ∧ some k ≠ vT.ownBlock ∧ some k ≠ vF.ownBlock) _ _ := Kd.R_alloc (row_new HS.out HBW.out HR2.out) _
  have z2 := heap_alloc_new w1 (.cells #[.slice A1 (Sp.numP op).length c1, .slice A2 (Sp.numR op).length c2] 178)
  have hsz : (w1.alloc (.cells #[.slice A1 (Sp.numP op).length c1, .slice A2 (Sp.numR op).length c2] 178)).heap.size = w1.heap.size + 1 := by simp
  have hw1 : w.heap.size ≤ w1.heap.size := HB.out.size
  go_end0
  refine ⟨rfl, vT, vF, m2, ?_⟩
  rw [HP.out]
  exact h2
theorem stacks_plain (w : World) (base g : Nat) (D : Nat → Prop) (fx : List Value) (s : Sp.St) (vT vF : Value) (h : StkAt w base g D fx s vT vF) (hI : Sp.SInv s) (hl : s.T.length + 8 ≤ 1000000) (hbw : base ≤ w.heap.size) (op : Int) : Calls Tryz.prog 99 #[.pointer (some ⟨g, 0, none⟩), .int .i64 op] w (StkEnd g base D fx w vT vF (.tuple #[]) (s.plain op)) := by
  cases hA : Sp.accB op with
  | true =>
    have ha := hA
    have hC : decide (Sp.constT op ≠ 0) = false := by
      simp only [Sp.accB, decide_eq_true_eq] at ha
      have h1 := (Sp.accN_range op).2 (by omega)
      refine decide_eq_false (fun q => ?_)
      have h2 := (Sp.constT_range op).2 q
      omega
    have hN : Sp.numB op = false := by
      simp only [Sp.accB, decide_eq_true_eq] at ha
      have h1 := (Sp.accN_range op).2 (by omega)
      simp only [Sp.numB, Sp.isInt, Sp.isFlt, Bool.or_eq_false_iff, decide_eq_false_iff_not]
      omega
    by_cases hge : 54 ≤ op
    · exact stacks_plain_A w base g D fx s vT vF h hI hl hbw op hA hge hC hN
    · exact stacks_plain_B w base g D fx s vT vF h hI hl hbw op hA hge hC hN
  | false =>
    cases hC : decide (Sp.constT op ≠ 0) with
    | true =>
      have h2 := (Sp.constT_range op).2 (of_decide_eq_true hC)
      have hN : Sp.numB op = false := by
        simp only [Sp.numB, Sp.isInt, Sp.isFlt, Bool.or_eq_false_iff, decide_eq_false_iff_not]
        omega
      exact stacks_plain_C w base g D fx s vT vF h hI hl hbw op hA hC hN
    | false =>
      cases hN : Sp.numB op with
      | true => exact stacks_plain_D w base g D fx s vT vF h hI hl hbw op hA hC hN
      | false =>
        by_cases h1 : op = 63
        · exact stacks_plain_E w base g D fx s vT vF h hI hl hbw op hA hC hN h1 (by simpa using h1)
        by_cases h2 : op = 64
        · exact stacks_plain_F w base g D fx s vT vF h hI hl hbw op hA hC hN h2 (by simpa using h1) (by simpa using h2)
        by_cases h3 : op = 64520
        · exact stacks_plain_G64520 w base g D fx s vT vF h hI hl hbw op hA hC hN h3 (by simpa using h1) (by simpa using h2) (by simpa using h3)
        by_cases h4 : op = 64522
        · exact stacks_plain_G64522 w base g D fx s vT vF h hI hl hbw op hA hC hN h4 (by simpa using h1) (by simpa using h2) (by simpa using h3) (by simpa using h4)
        by_cases h5 : op = 64523
        · exact stacks_plain_G64523 w base g D fx s vT vF h hI hl hbw op hA hC hN h5 (by simpa using h1) (by simpa using h2) (by simpa using h3) (by simpa using h4) (by simpa using h5)
        · exact stacks_plain_H w base g D fx s vT vF h hI hl hbw op hA hC hN h1 h2 h3 h4 h5 (by simpa using h1) (by simpa using h2) (by simpa using h3) (by simpa using h4) (by simpa using h5)
end Go.Proofs.YthehihjcpiadgaaGreat
end
section
namespace Go.Proofs.YthehihjcpiadgaaGreat
open Go.RowKit Go.Proofs.YthehihjcpiadgaaGreatW.PrintWords Go.Proofs.YthehihjcpiadgaaGreatW.PrintLast
set_option linter.unusedSimpArgs false
set_option linter.unusedVariables false
/-- What Step leaves. -/
def StepEnd (g base : Nat) (D : Nat → Prop) (fx : List Value) (w : World) (vT vF : Value) (s' : Sp.St) (e : Ending) (w' : World) : Prop :=
  e = .returned (.bool (!s'.bad)) ∧ ∃ vT' vF', Mv g w w' vT vF vT' vF' ∧ StkAt w' base g D fx s' vT' vF'
/-- An instruction as a value. -/
abbrev instV (op a b n : Int) (L : Value) : Value := .agg #[.int .i64 op, .int .i64 a, .int .i64 b, .int .u64 n, L]
abbrev instBox (op a b n : Int) (L : Value) : Obj := .cells #[.int .i64 op, .int .i64 a, .int .i64 b, .int .u64 n, L] 25
set_option maxRecDepth 100000 in
set_option maxHeartbeats 2000000 in
theorem step_0 (w : World) (base g : Nat) (D : Nat → Prop) (fx : List Value) (s' : Sp.St) (vT vF : Value) (a b n : Int) (A : Option Addr) (l c : Nat) (r : Value) (op : Int) (hop : op = 0) (hcall : Calls Tryz.prog 90 #[.pointer (some ⟨g, 0, none⟩)] (w.alloc (instBox op a b n (.slice A l c))) (StkEnd g base D fx (w.alloc (instBox op a b n (.slice A l c))) vT vF r s')) : Calls Tryz.prog 47 #[.pointer (some ⟨g, 0, none⟩), instV op a b n (.slice A l c)] w (StepEnd g base D fx w vT vF s') := by
  subst hop
  have HC := Lib.hid hcall
  clear hcall
  go_enter Tryz.func47, Tryz.ntmps47
  go_wp2_with (first | ((go_at_call 90); (with_reducible refine HC.out.mono ?_); rintro e W ⟨rfl, vT', vF', m, hS⟩; obtain ⟨bb, hbb⟩ : ∃ bb, bb = s'.bad := ⟨_, rfl⟩; have c13 := (blk_cell hS.1 13).trans (stk_13 hS.2.1 _ _ _); rw [← hbb] at c13; have HM := Lib.hid m; have HS2 := Lib.hid hS; have HBB := Lib.hid hbb; clear m hS hbb))
  go_ret
  refine ⟨by rw [← HBB.out]; rfl, vT', vF', (Mv.of_below (below_alloc (Below.refl _ _) _)).trans HM.out, HS2.out⟩
set_option maxRecDepth 100000 in
set_option maxHeartbeats 2000000 in
theorem step_11 (w : World) (base g : Nat) (D : Nat → Prop) (fx : List Value) (s' : Sp.St) (vT vF : Value) (a b n : Int) (A : Option Addr) (l c : Nat) (r : Value) (op : Int) (hop : op = 11) (hcall : Calls Tryz.prog 93 #[.pointer (some ⟨g, 0, none⟩)] (w.alloc (instBox op a b n (.slice A l c))) (StkEnd g base D fx (w.alloc (instBox op a b n (.slice A l c))) vT vF r s')) : Calls Tryz.prog 47 #[.pointer (some ⟨g, 0, none⟩), instV op a b n (.slice A l c)] w (StepEnd g base D fx w vT vF s') := by
  subst hop
  have HC := Lib.hid hcall
  clear hcall
  go_enter Tryz.func47, Tryz.ntmps47
  go_wp2_with (first | ((go_at_call 93); (with_reducible refine HC.out.mono ?_); rintro e W ⟨rfl, vT', vF', m, hS⟩; obtain ⟨bb, hbb⟩ : ∃ bb, bb = s'.bad := ⟨_, rfl⟩; have c13 := (blk_cell hS.1 13).trans (stk_13 hS.2.1 _ _ _); rw [← hbb] at c13; have HM := Lib.hid m; have HS2 := Lib.hid hS; have HBB := Lib.hid hbb; clear m hS hbb))
  go_ret
  refine ⟨by rw [← HBB.out]; rfl, vT', vF', (Mv.of_below (below_alloc (Below.refl _ _) _)).trans HM.out, HS2.out⟩
set_option maxRecDepth 100000 in
set_option maxHeartbeats 2000000 in
theorem step_26 (w : World) (base g : Nat) (D : Nat → Prop) (fx : List Value) (s' : Sp.St) (vT vF : Value) (a b n : Int) (A : Option Addr) (l c : Nat) (r : Value) (op : Int) (hop : op = 26) (hcall : Calls Tryz.prog 96 #[.pointer (some ⟨g, 0, none⟩)] (w.alloc (instBox op a b n (.slice A l c))) (StkEnd g base D fx (w.alloc (instBox op a b n (.slice A l c))) vT vF r s')) : Calls Tryz.prog 47 #[.pointer (some ⟨g, 0, none⟩), instV op a b n (.slice A l c)] w (StepEnd g base D fx w vT vF s') := by
  subst hop
  have HC := Lib.hid hcall
  clear hcall
  go_enter Tryz.func47, Tryz.ntmps47
  go_wp2_with (first | ((go_at_call 96); (with_reducible refine HC.out.mono ?_); rintro e W ⟨rfl, vT', vF', m, hS⟩; obtain ⟨bb, hbb⟩ : ∃ bb, bb = s'.bad := ⟨_, rfl⟩; have c13 := (blk_cell hS.1 13).trans (stk_13 hS.2.1 _ _ _); rw [← hbb] at c13; have HM := Lib.hid m; have HS2 := Lib.hid hS; have HBB := Lib.hid hbb; clear m hS hbb))
  go_ret
  refine ⟨by rw [← HBB.out]; rfl, vT', vF', (Mv.of_below (below_alloc (Below.refl _ _) _)).trans HM.out, HS2.out⟩
set_option maxRecDepth 100000 in
set_option maxHeartbeats 2000000 in
theorem step_else (w : World) (base g : Nat) (D : Nat → Prop) (fx : List Value) (s' : Sp.St) (vT vF : Value) (a b n : Int) (A : Option Addr) (l c : Nat) (r : Value) (op : Int) (b0 : (op == 0) = false) (b2 : (op == 2) = false) (b3 : (op == 3) = false) (b4 : (op == 4) = false) (b5 : (op == 5) = false) (b11 : (op == 11) = false) (b12 : (op == 12) = false) (b13 : (op == 13) = false) (b14 : (op == 14) = false) (b15 : (op == 15) = false) (b16 : (op == 16) = false) (b18 : (op == 18) = false) (b26 : (op == 26) = false) (b27 : (op == 27) = false) (b32 : (op == 32) = false) (b33 : (op == 33) = false) (b34 : (op == 34) = false) (b35 : (op == 35) = false) (b36 : (op == 36) = false) (hcall : Calls Tryz.prog 99 #[.pointer (some ⟨g, 0, none⟩), .int .i64 op] (w.alloc (instBox op a b n (.slice A l c))) (StkEnd g base D fx (w.alloc (instBox op a b n (.slice A l c))) vT vF r s')) : Calls Tryz.prog 47 #[.pointer (some ⟨g, 0, none⟩), instV op a b n (.slice A l c)] w (StepEnd g base D fx w vT vF s') := by
  have HC := Lib.hid hcall
  clear hcall
  go_enter Tryz.func47, Tryz.ntmps47
  go_wp2_with (first | ((go_at_call 99); (with_reducible refine HC.out.mono ?_); rintro e W ⟨rfl, vT', vF', m, hS⟩; obtain ⟨bb, hbb⟩ : ∃ bb, bb = s'.bad := ⟨_, rfl⟩; have c13 := (blk_cell hS.1 13).trans (stk_13 hS.2.1 _ _ _); rw [← hbb] at c13; have HM := Lib.hid m; have HS2 := Lib.hid hS; have HBB := Lib.hid hbb; clear m hS hbb))
  go_ret
  refine ⟨by rw [← HBB.out]; rfl, vT', vF', (Mv.of_below (below_alloc (Below.refl _ _) _)).trans HM.out, HS2.out⟩
end Go.Proofs.YthehihjcpiadgaaGreat
end
section
namespace Go.Proofs.YthehihjcpiadgaaGreat
open Go.RowKit Go.Proofs.YthehihjcpiadgaaGreatW.PrintWords
set_option linter.unusedSimpArgs false
set_option linter.unusedVariables false
set_option maxRecDepth 100000 in
theorem slices_Grow (n : Int) (w : World) (h0 : 0 ≤ n) (h1 : n ≤ 2000000) : Calls Tryz.prog 192 #[.slice none 0 0, .int .i64 n] w (fun e w' => ∃ A c, e = .returned (.slice A 0 c) ∧ IntsR w' w.heap.size (.slice A 0 c) [] ∧ Below w.heap.size w w') := by
  have hw : wrap64 n = n := Tx.w64 (by omega) (by omega)
  have hn : ¬ n < 0 := by omega
  by_cases hp : 0 < n
  · have HW := Lib.hid hw; have H0 := Lib.hid h0; have H1 := Lib.hid h1
    have hd : decide (0 < n) = true := decide_eq_true hp
    have hd2 : decide (n < 0) = false := decide_eq_false hn
    clear h1
    go_enter Tryz.func192, Tryz.ntmps192
    go_wp2_with (at_builtin; (refine Kd.R_append_zeros (Kd.int .i64) (w0 := w) w.heap.size rfl (.tmp 20) (.tmp 21) 23 3 3 (.int .i64 0) 8 rfl Tryz.underlying23 Tryz.underlying3 infoInt rfl Nat.zero_lt_one (Nat.zero_lt_succ 7) _ [] 0 (wrap64 n) (fun _ => True) rfl rfl ?hz (fun _ _ => trivial) ?ho ?h0 ?hb ?hsz ?hl ?_); (case hz => rfl); (case ho => exact Kd.R_nil _ _ _ _ _); (case h0 => rw [HW.out]; exact H0.out); (case hb => exact Below.refl _ _); (case hsz => exact Nat.le_refl _); (case hl => have := H1.out; have := H0.out; rw [HW.out]; simp; omega); intro v1 w1 hR hB hG hat; obtain ⟨A1, c1, rfl⟩ := Kd.R_slice hR; have HR := Lib.hid hR; have HB := Lib.hid hB; clear hR hB hG hat)
    go_ret
    exact ⟨_, _, rfl, Kd.R_take (m := 0) HR.out (Nat.zero_le _), HB.out⟩
  · obtain rfl : n = 0 := by omega
    clear h0 h1 hw hn hp
    go_enter Tryz.func192, Tryz.ntmps192
    go_wp2
    go_ret
    exact ⟨_, _, rfl, Kd.R_nil _ _ _ _ _, Below.refl _ _⟩
set_option maxRecDepth 100000 in
set_option maxHeartbeats 2000000 in
theorem slices_Concat (A B : Option Addr) (cA cB b : Nat) (xs ys : List Int) (w : World) (hb0 : w.cell? ⟨b, 0, none⟩ = some (.slice A xs.length cA)) (hb1 : w.cell? ⟨b, 1, none⟩ = some (.slice B ys.length cB)) (hx : IntsC w A xs) (hy : IntsC w B ys) (lx : xs.length ≤ 1000000) (ly : ys.length ≤ 1000000) :
    Calls Tryz.prog 142 #[.slice (some ⟨b, 0, none⟩) 2 2] w (IntsEnd (xs ++ ys) w) := by
  have w1a : wrap64 (xs.length : Int) = xs.length := Tx.w64 (by omega) (by omega)
  have w2a : wrap64 ((xs.length : Int) + ys.length) = (xs.length : Int) + ys.length := Tx.w64 (by omega) (by omega)
  have hn1 : decide ((xs.length : Int) < 0) = false := decide_eq_false (by omega)
  have hn2 : decide ((xs.length : Int) + ys.length < 0) = false := decide_eq_false (by omega)
  have hblt : b < w.heap.size := World.block_lt_of_cell? w ⟨b, 0, none⟩ hb0
  have HG := Lib.hid (fun (w : World) => slices_Grow ((xs.length : Int) + ys.length) w (by omega) (by omega))
  have HX := Lib.hid hx; have HY := Lib.hid hy; have LX := Lib.hid lx; have LY := Lib.hid ly; have HC0 := Lib.hid hb0; have HC1 := Lib.hid hb1
  clear hx hy lx ly
  go_enter Tryz.func142, Tryz.ntmps142
  go_wp2
  refine wp_loop_rounds 3 ?_
  rw [rounds_succ]; go_wp2
  rw [rounds_succ]; go_wp2
  rw [rounds_succ]; go_wp2_with (first | ((go_at_call 192); (with_reducible refine (HG.out _).mono ?_); rintro e w1 ⟨A1, c1, rfl, hR, hB⟩; have d0 := (hB.cell (p := ⟨b, 0, none⟩) hblt).trans HC0.out; have d1 := (hB.cell (p := ⟨b, 1, none⟩) hblt).trans HC1.out; have HR := Lib.hid hR; have HB := Lib.hid hB; clear hR hB))
  refine wp_loop_rounds 3 ?_
  rw [rounds_succ]; go_wp2_with (at_builtin; (refine Kd.R_append_rows (Kd.int .i64) (w0 := w) w.heap.size rfl (.tmp 31) (.tmp 32) 23 3 (.int .i64 0) 8 rfl Tryz.underlying23 infoInt rfl Nat.zero_lt_one (Nat.zero_lt_succ 7) _ [] xs A xs.length cA (fun _ => True) (fun _ => False) rfl rfl ?ho ?hr (fun _ _ h => h) (fun _ h => h.elim) (fun _ _ => trivial) ?hb ?hsz ?hl2 ?_); (case ho => exact HR.out); (case hr => exact Kd.C_below HX.out HB.out); (case hb => exact HB.out); (case hsz => exact HB.out.size); (case hl2 => have := LX.out; have := LY.out; simp; omega); intro v1 w2 hR hB hG hat; obtain ⟨P1, k1, rfl⟩ := Kd.R_slice hR; have d2 := (hB.cell (p := ⟨b, 1, none⟩) hblt).trans HC1.out; have HR1 := Lib.hid hR; have HB1 := Lib.hid hB; clear hR hB hG hat)
  rw [rounds_succ]; go_wp2_with (at_builtin; (refine Kd.R_append_rows (Kd.int .i64) (w0 := w) w.heap.size rfl (.tmp 31) (.tmp 32) 23 3 (.int .i64 0) 8 rfl Tryz.underlying23 infoInt rfl Nat.zero_lt_one (Nat.zero_lt_succ 7) _ ([] ++ xs) ys B ys.length cB (fun _ => True) (fun _ => False) rfl rfl ?ho ?hr (fun _ _ h => h) (fun _ h => h.elim) (fun _ _ => trivial) ?hb ?hsz ?hl2 ?_); (case ho => exact HR1.out); (case hr => exact Kd.C_below HY.out HB1.out); (case hb => exact HB1.out); (case hsz => exact HB1.out.size); (case hl2 => have := LX.out; have := LY.out; simp; omega); intro v2 w3 hR hB hG hat; obtain ⟨P2, k2, rfl⟩ := Kd.R_slice hR; have d3 := (hB.cell (p := ⟨b, 1, none⟩) hblt).trans HC1.out; have HR2 := Lib.hid hR; have HB2 := Lib.hid hB; clear hR hB hG hat)
  rw [rounds_succ]; go_wp2
  go_ret
  have hr := HR2.out
  rw [List.nil_append, List.length_append] at hr
  exact ⟨.slice P2 (xs.length + ys.length) k2, rfl, hr, HB2.out⟩
end Go.Proofs.YthehihjcpiadgaaGreat
end
section
namespace Go.Proofs.YthehihjcpiadgaaGreat
open Go.RowKit Go.Proofs.YthehihjcpiadgaaGreatW.PrintWords Go.Proofs.YthehihjcpiadgaaGreatW.PrintLast
set_option linter.unusedSimpArgs false
set_option linter.unusedVariables false
set_option maxRecDepth 100000 in
set_option maxHeartbeats 4000000 in
theorem module_Locals (M : SMod) (cs : List Value) (j : Int) (w : World) (hM : kMod.K w M cs) (n1 : M.f1.length ≤ 1000000) (n2 : M.f2.length ≤ 1000000) (hs : SmallTys M.f0) (h0 : 0 ≤ j) (h1 : j < M.f2.length) (t : STy) (ht : Sp.sigOf M ((M.f1.length : Int) + j) = some t) (lp : t.f0.length ≤ 1000000) (ll : (rd_TFun M.f2 j).f1.length ≤ 1000000) :
    Calls Tryz.prog 85 #[.agg cs.toArray, .int .i64 ((M.f1.length : Int) + j)] w (IntsEnd (t.f0 ++ (rd_TFun M.f2 j).f1) w) := by
  obtain ⟨A0, c0, A1, c1, A2, c2, A3, c3, A4, c4, A5, c5, A6, c6, A7, c7, rfl, l0, g0, l1, g1, l2, g2, -⟩ := kMod_open hM
  obtain ⟨ad, B2, d2, B3, d3, rfl, e2, e3, e4, l4, q4, -⟩ := at_TFun g2 j h0 h1
  have hlt := World.block_lt_of_cell? w _ e3
  have HS := Lib.hid (module_Sig M _ ((M.f1.length : Int) + j) (w.alloc (.cells #[.slice A0 M.f0.length c0, .slice A1 M.f1.length c1, .slice (some ad) M.f2.length c2, .slice A3 M.f3.length c3, .slice A4 M.f4.length c4, .slice A5 M.f5.length c5, .slice A6 M.f6.length c6, .slice A7 M.f7.length c7] 37)) (Kd.K_below kMod (below_alloc (Below.refl _ _) _) hM) n1 n2 hs (by omega) (by omega))
  rw [ht] at HS
  have hw : wrap64 j = j := Tx.w64 (by omega) (by omega)
  have hj : (M.f1.length : Int) + j - (M.f1.length : Int) = j := by omega
  have hf0 : decide ((M.f1.length : Int) + j < 0) = false := decide_eq_false (by omega)
  have w3 : Sp.within j 0 ((M.f2.length : Int) - 1) = true := by simp [Sp.within]; omega
  have HQ := Lib.hid q4; have HE := Lib.hid e4; have HE3 := Lib.hid e3; have LP := Lib.hid lp; have LL := Lib.hid ll
  obtain ⟨nl, hnl⟩ : ∃ nl, nl = (rd_TFun M.f2 j).f1 := ⟨_, rfl⟩
  rw [← hnl] at HE3 HQ LL ⊢
  clear e2 e3 e4 q4 g0 g1 g2 hM hs ht l0 l1 l2 l4 lp ll n1 hnl
  go_enter Tryz.func85, Tryz.ntmps85
  go_wp2_with (first | ((go_at_call 84); (with_reducible refine HS.out.mono ?_); rintro e w2 ⟨v1, v2, rfl, r1, r2, hb⟩; simp only [Option.getD_some, Option.isSome_some] at r1 r2 ⊢; obtain ⟨P1, k1, rfl⟩ := Kd.R_slice r1; obtain ⟨P2, k2, rfl⟩ := Kd.R_slice r2; have x0 := (hb.block w.heap.size (by simp)).trans (heap_alloc_new w _); have y2 := (blk_cell x0 2).trans rfl; have hsz : w.heap.size < w2.heap.size := (by have := hb.size; simp at this; omega); have HX0 := Lib.hid x0; have HR1 := Lib.hid r1; have HB2 := Lib.hid hb; clear r1 r2 hb x0) | ((go_at_call 137); (refine (module_within _ _ _).mono ?_); rintro e w' ⟨rfl, rfl⟩))
  have hB : Below w.heap.size w (w2.alloc (.cells #[.slice P1 t.f0.length k1, .slice P2 t.f1.length k2] 40)) := below_alloc (below_then (below_alloc (Below.refl _ _) _) (by simp) HB2.out) _
  have z6 := heap_alloc_new w2 (.cells #[.slice P1 t.f0.length k1, .slice P2 t.f1.length k2] 40)
  have z0 := blk_alloc HX0.out (.cells #[.slice P1 t.f0.length k1, .slice P2 t.f1.length k2] 40)
  have q1 : IntsR (w2.alloc (.cells #[.slice P1 t.f0.length k1, .slice P2 t.f1.length k2] 40)) w.heap.size (.slice P1 t.f0.length k1) t.f0 := Kd.R_alloc (intsR_lower HR1.out (by simp)) _
  have hsz2 : (w2.alloc (.cells #[.slice P1 t.f0.length k1, .slice P2 t.f1.length k2] 40)).heap.size = w2.heap.size + 1 := by simp
  clear y2
  generalize w2.alloc (.cells #[.slice P1 t.f0.length k1, .slice P2 t.f1.length k2] 40) = W at hB z6 z0 q1 hsz2 ⊢
  have s6 := (blk_cell z6 0).trans rfl
  have s2 := (blk_cell z0 2).trans rfl
  have s3 := (hB.cell (p := ⟨(ad.add (j.toNat * 3)).block, (ad.add (j.toNat * 3)).off + 1, none⟩) hlt).trans HE3.out
  have HBB := Lib.hid hB; have HQ1 := Lib.hid q1
  clear hB z6 z0 q1
  refine start_ (n := 11) (S := fun w' => w'.cell? ⟨w2.heap.size, 0, none⟩ = some (.slice P1 t.f0.length k1) ∧ w'.cell? ⟨w.heap.size, 2, none⟩ = some (.slice (some ad) M.f2.length c2) ∧ w'.cell? ⟨(ad.add (j.toNat * 3)).block, (ad.add (j.toNat * 3)).off + 1, none⟩ = some (.slice B2 nl.length d2)) (ds := []) #[false, false, false, false, false, false, false, false, false, false, false] (by kernel_rfl) rfl rfl ⟨s6, s2, s3⟩ (fun hHeld => ?_)
  refine pure_ (i := 0) (N := some 33) (v := ?_) (a' := ?_) #[true, false, false, false, false, false, false, false, false, false, false] rfl rfl (by kernel_rfl) (fun _ _ _ h => h) (Or.inl ⟨by rfl, ?_⟩) ?_ ?_
  rotate_left
  · intro w'
    go_simp
    try with_reducible rfl
  rotate_left
  · simp only [Act.put, List.setIfInBounds_toArray, List.set_cons_zero, List.set_cons_succ, i64_w, i32_w]
    rfl
  refine take_ (i := 1) (N := some 34) (v := ?_) (a' := ?_) #[true, true, false, false, false, false, false, false, false, false, false] rfl rfl (by kernel_rfl) (fun _ _ _ h => h) (Or.inl ⟨by rfl, ?_⟩) hHeld ?_ ?_
  rotate_left
  · rintro w' ⟨s0, s1, s2⟩
    go_simp
    try with_reducible rfl
  rotate_left
  · simp only [Act.put, List.setIfInBounds_toArray, List.set_cons_zero, List.set_cons_succ, i64_w, i32_w]
    rfl
  refine pure_ (i := 2) (N := some 35) (v := ?_) (a' := ?_) #[true, true, true, false, false, false, false, false, false, false, false] rfl rfl (by kernel_rfl) (fun _ _ _ h => h) (Or.inl ⟨by rfl, ?_⟩) ?_ ?_
  rotate_left
  · intro w'
    go_simp
    try with_reducible rfl
  rotate_left
  · simp only [Act.put, List.setIfInBounds_toArray, List.set_cons_zero, List.set_cons_succ, i64_w, i32_w]
    rfl
  refine take_ (i := 3) (N := some 36) (v := ?_) (a' := ?_) #[true, true, true, true, false, false, false, false, false, false, false] rfl rfl (by kernel_rfl) (fun _ _ _ h => h) (Or.inl ⟨by rfl, ?_⟩) hHeld ?_ ?_
  rotate_left
  · rintro w' ⟨s0, s1, s2⟩
    go_simp
    try with_reducible rfl
  rotate_left
  · simp only [Act.put, List.setIfInBounds_toArray, List.set_cons_zero, List.set_cons_succ, i64_w, i32_w]
    rfl
  refine pure_ (i := 4) (N := some 37) (v := ?_) (a' := ?_) #[true, true, true, true, true, false, false, false, false, false, false] rfl rfl (by kernel_rfl) (fun _ _ _ h => h) (Or.inl ⟨by rfl, ?_⟩) ?_ ?_
  rotate_left
  · intro w'
    go_simp
    try with_reducible rfl
  rotate_left
  · simp only [Act.put, List.setIfInBounds_toArray, List.set_cons_zero, List.set_cons_succ, i64_w, i32_w]
    rfl
  refine pure_ (i := 5) (N := some 38) (v := ?_) (a' := ?_) #[true, true, true, true, true, true, false, false, false, false, false] rfl rfl (by kernel_rfl) (fun _ _ _ h => h) (Or.inl ⟨by rfl, ?_⟩) ?_ ?_
  rotate_left
  · intro w'
    go_simp
    try with_reducible rfl
  rotate_left
  · simp only [Act.put, List.setIfInBounds_toArray, List.set_cons_zero, List.set_cons_succ, i64_w, i32_w]
    rfl
  refine pure_ (i := 6) (N := some 39) (v := ?_) (a' := ?_) #[true, true, true, true, true, true, true, false, false, false, false] rfl rfl (by kernel_rfl) (fun _ _ _ h => h) (Or.inl ⟨by rfl, ?_⟩) ?_ ?_
  rotate_left
  · intro w'
    go_simp
    try with_reducible rfl
  rotate_left
  · simp only [Act.put, List.setIfInBounds_toArray, List.set_cons_zero, List.set_cons_succ, i64_w, i32_w]
    rfl
  refine take_ (i := 7) (N := some 40) (v := ?_) (a' := ?_) #[true, true, true, true, true, true, true, true, false, false, false] rfl rfl (by kernel_rfl) (fun _ _ _ h => h) (Or.inl ⟨by rfl, ?_⟩) hHeld ?_ ?_
  rotate_left
  · rintro w' ⟨s0, s1, s2⟩
    go_simp
    try with_reducible rfl
  rotate_left
  · simp only [Act.put, List.setIfInBounds_toArray, List.set_cons_zero, List.set_cons_succ, i64_w, i32_w]
    rfl
  refine one_ (i := 8) (N := some 41) #[true, true, true, true, true, true, true, true, true, false, false] rfl rfl (by kernel_rfl) (by decide) (fun K hK => ?_)
  rw [if_pos (by rfl)]
  go_simp
  refine hK.out _ _ (by obtain ⟨s0, s1, s2⟩ := hHeld; exact ⟨cell_al s0, cell_al s1, cell_al s2⟩) (fun hHeld => ?_)
  clear hK K
  refine one_ (i := 9) (N := some 42) #[true, true, true, true, true, true, true, true, true, true, false] rfl rfl (by kernel_rfl) (by decide) (fun K hK => ?_)
  refine goes_ Tryz.func142 (by kernel_rfl) rfl #[.slice (some ⟨w2.heap.size + 1, 0, none⟩) 2 2] (by rfl) rfl rfl (by simp only [List.map_toArray, List.map_cons, List.map_nil]; rfl) ?_
  have HN : Hid ((W.drew.alloc (.cells #[.slice P1 t.f0.length k1, .slice B2 nl.length d2] 23)).heap[w2.heap.size + 1]? = some (.cells #[.slice P1 t.f0.length k1, .slice B2 nl.length d2] 23 (0, 0))) := Lib.hid (by have q := heap_alloc_new W.drew (.cells #[.slice P1 t.f0.length k1, .slice B2 nl.length d2] 23); rw [show W.drew.heap.size = w2.heap.size + 1 from hsz2] at q; exact q)
  refine (slices_Concat P1 B2 k1 d2 (w2.heap.size + 1) t.f0 nl (W.drew.alloc (.cells #[.slice P1 t.f0.length k1, .slice B2 nl.length d2] 23)) ((blk_cell HN.out 0).trans rfl) ((blk_cell HN.out 1).trans rfl) (Kd.C_alloc (Kd.C_drew (Kd.R_reads' HQ1.out).2.2) _) (Kd.C_alloc (Kd.C_drew (Kd.C_below HQ.out HBB.out)) _) LP.out LL.out).mono ?_
  rintro e w4 ⟨v4, rfl, r4, hb4⟩
  have HR4 := Lib.hid r4; have HB4 := Lib.hid hb4
  refine ⟨_, rfl, ?_⟩
  refine hK.out _ _ (by obtain ⟨s0, s1, s2⟩ := hHeld; exact ⟨(HB4.out.cell (World.block_lt_of_cell? _ _ s0)).trans s0, (HB4.out.cell (World.block_lt_of_cell? _ _ s1)).trans s1, (HB4.out.cell (World.block_lt_of_cell? _ _ s2)).trans s2⟩) (fun hHeld => ?_)
  clear hK K
  refine norm_ (a' := ?_) ?_ ?_
  rotate_left
  · show Act.put _ (some 42) _ = _
    simp only [Act.put, List.setIfInBounds_toArray, List.set_cons_zero, List.set_cons_succ, i64_w, i32_w]
    rfl
  refine pure_ (i := 10) (N := some 4) (v := ?_) (a' := ?_) #[true, true, true, true, true, true, true, true, true, true, true] rfl rfl (by kernel_rfl) (fun _ _ _ h => h) (Or.inl ⟨by rfl, ?_⟩) ?_ ?_
  rotate_left
  · intro w'
    go_simp
    try with_reducible rfl
  rotate_left
  · simp only [Act.put, List.setIfInBounds_toArray, List.set_cons_zero, List.set_cons_succ, i64_w, i32_w]
    rfl
  refine done_ (by kernel_rfl) ?_
  go_wp2_with fail
  go_ret
  have hs1 := HBB.out.size
  exact ⟨v4, rfl, intsR_lower HR4.out (by simp; omega), below_then (below_alloc (below_drew HBB.out) _) (by simp; omega) HB4.out⟩
end Go.Proofs.YthehihjcpiadgaaGreat
end
section
namespace Go.Proofs.YthehihjcpiadgaaGreat
open Go.RowKit Go.Proofs.YthehihjcpiadgaaGreatW.PrintWords Go.Proofs.YthehihjcpiadgaaGreatW.PrintLast
set_option linter.unusedSimpArgs false
set_option linter.unusedVariables false
/-- A row of one frame that is made now. -/
theorem frames_lit (W : World) (base : Nat) (ok : Nat → Prop) (hb : base ≤ W.heap.size) (fr : SFr) (v1 v2 : Value) (r1 : TypesR W base ok v1 fr.f1.f0) (r2 : TypesR W base ok v2 fr.f1.f1) (hok : ok W.heap.size) :
    FramesR (W.alloc (.cells #[.int .i64 fr.f0, v1, v2, .int .i64 fr.f2, .bool fr.f3] 113)) base ok (.slice (some ⟨W.heap.size, 0, none⟩) 1 1) [fr] := by
  have hrep : Reps (kFr.M W base ok) kFr.sz ([] ++ [fr]) ([] ++ [.int .i64 fr.f0, v1, v2, .int .i64 fr.f2, .bool fr.f3]) := Reps.snoc (Reps.none _ _) (kFr_mkM _ _ _ fr r1 r2) rfl
  simp only [List.nil_append] at hrep
  refine ⟨fun k hk => ?_, [.int .i64 fr.f0, v1, v2, .int .i64 fr.f2, .bool fr.f3], ?_, ?_⟩
  · have : W.heap.size = k := by simpa [Value.ownBlock] using hk
    subst this
    exact hok
  · have h2 := World.ownsRow_lit (base := base) (e := 113) (size := kFr.sz) W #[.int .i64 fr.f0, v1, v2, .int .i64 fr.f2, .bool fr.f3] 1 hb (by decide) rfl
    simpa using h2
  · refine hrep.imp_ (fun p c hp => kFr.M_mono (fun k hk => ⟨hk.1, fun he => ?_⟩) (Kd.M_below (kFr.M_bound hp) (below_alloc (Below.refl _ _) _)))
    have h3 : k = W.heap.size := by simpa [Value.ownBlock] using he
    have := hk.2.2.1
    omega
/-- The rows that a check.Stacks only reads. -/
def RowsD (vL v1 v2 : Value) : Nat → Prop := fun k => some k = vL.ownBlock ∨ some k = v1.ownBlock ∨ some k = v2.ownBlock
/-- Block g is a check.Stacks of a function of module E.M; what it reads besides: below base, or in three rows of its own. -/
def EnvAt (w : World) (base : Nat) (E : Sp.Env) (cs : List Value) (vL v1 v2 : Value) : Prop :=
  ∃ w0 : World, base = w0.heap.size ∧ kMod.K w0 E.M cs ∧ Below base w0 w ∧ TypesR w base (RowsD vL v1 v2) vL E.L ∧ TypesR w base (RowsD vL v1 v2) v1 E.S.f0 ∧ TypesR w base (RowsD vL v1 v2) v2 E.S.f1
/-- What New leaves. -/
def NewEnd (E : Sp.Env) (cs : List Value) (w : World) (e : Ending) (w' : World) : Prop :=
  ∃ g vL v1 v2 vT vF, e = .returned (.pointer (some ⟨g, 0, none⟩)) ∧ Below w.heap.size w w' ∧ EnvAt w' w.heap.size E cs vL v1 v2 ∧ StkAt w' w.heap.size g (RowsD vL v1 v2) (cs ++ [vL, v1, v2]) ⟨[], [⟨2, ⟨[], E.S.f1⟩, 0, false⟩], false⟩ vT vF
theorem rows_self {w : World} {base : Nat} {v : Value} {xs : List Int} {D : Nat → Prop} (h : IntsR w base v xs) (hD : ∀ k, v.ownBlock = some k → D k) : TypesR w base D v xs := by
  obtain ⟨h0, inner, ho, hr⟩ := h
  exact ⟨hD, inner, ho, hr.imp_ (fun _ _ hp => hp)⟩
theorem new_close {w X : World} {E : Sp.Env} {cs : List Value} {vL v1 v2 : Value} {nf : Nat} (hM : kMod.K w E.M cs) (h8 : cs.length = 8) (hB : Below w.heap.size w X) (qL : IntsR X w.heap.size vL E.L) (q1 : IntsR X w.heap.size v1 E.S.f0) (q2 : IntsR X w.heap.size v2 E.S.f1)
    (hF : FramesR X w.heap.size (fun _ => True) (.slice (some ⟨nf, 0, none⟩) 1 1) [⟨2, ⟨[], E.S.f1⟩, 0, false⟩]) (hne : ∀ k, RowsD vL v1 v2 k → k ≠ nf) :
    NewEnd E cs w (.returned (.pointer (some ⟨X.heap.size, 0, none⟩))) (X.alloc (.cells (stkCells (cs ++ [vL, v1, v2]) (.slice none 0 0) (.slice (some ⟨nf, 0, none⟩) 1 1) false) 111)) := by
  have lD : ∀ k, RowsD vL v1 v2 k → k < X.heap.size := fun k hk => by
    rcases hk with h | h | h
    · exact Kd.R_lt qL k h.symm
    · exact Kd.R_lt q1 k h.symm
    · exact Kd.R_lt q2 k h.symm
  have hb2 : Below X.heap.size X (X.alloc (.cells (stkCells (cs ++ [vL, v1, v2]) (.slice none 0 0) (.slice (some ⟨nf, 0, none⟩) 1 1) false) 111)) := below_alloc (Below.refl _ _) _
  refine ⟨X.heap.size, vL, v1, v2, .slice none 0 0, .slice (some ⟨nf, 0, none⟩) 1 1, rfl, below_then hB hB.size hb2, ⟨w, rfl, hM, below_then hB hB.size hb2, ?_, ?_, ?_⟩, heap_alloc_new X _, by simp [h8], hB.size, fun hk => ?_, Kd.R_nil _ _ _ _ _, ?_, fun k hk hd => ?_, fun k hk => ?_⟩
  · exact Kd.R_below (rows_self qL (fun k hk => .inl hk.symm)) hb2
  · exact Kd.R_below (rows_self q1 (fun k hk => .inr (.inl hk.symm))) hb2
  · exact Kd.R_below (rows_self q2 (fun k hk => .inr (.inr hk.symm))) hb2
  · have := lD _ hk; omega
  · exact Kd.R_below (Kd.R_mono (Kd.R_bound hF) (fun k hk => ⟨by have := hk.2.2.1; omega, by simp [Value.ownBlock]⟩)) hb2
  · have e : nf = k := by simpa [Value.ownBlock] using hk
    exact hne k hd e.symm
  · have := lD k hk; simp; omega
set_option maxRecDepth 100000 in
set_option maxHeartbeats 8000000 in
theorem check_New (M : SMod) (cs : List Value) (j : Int) (w : World) (hM : kMod.K w M cs) (n1 : M.f1.length ≤ 1000000) (n2 : M.f2.length ≤ 1000000) (hs : SmallTys M.f0) (h0 : 0 ≤ j) (h1 : j < M.f2.length) (t : STy) (ht : Sp.sigOf M ((M.f1.length : Int) + j) = some t) (lp : t.f0.length ≤ 1000000) (ll : (rd_TFun M.f2 j).f1.length ≤ 1000000) :
    Calls Tryz.prog 44 #[.agg cs.toArray, .int .i64 j] w (NewEnd ⟨M, t.f0 ++ (rd_TFun M.f2 j).f1, t⟩ cs w) := by
  obtain ⟨A0, c0, A1, c1, A2, c2, A3, c3, A4, c4, A5, c5, A6, c6, A7, c7, rfl, l0, g0, -⟩ := kMod_open hM
  have HS := Lib.hid (module_Sig M _ ((M.f1.length : Int) + j) (w.alloc (.cells #[.slice A0 M.f0.length c0, .slice A1 M.f1.length c1, .slice A2 M.f2.length c2, .slice A3 M.f3.length c3, .slice A4 M.f4.length c4, .slice A5 M.f5.length c5, .slice A6 M.f6.length c6, .slice A7 M.f7.length c7] 37)) (Kd.K_below kMod (below_alloc (Below.refl _ _) _) hM) n1 n2 hs (by omega) (by omega))
  rw [ht] at HS
  have hw : wrap64 (j + (M.f1.length : Int)) = (M.f1.length : Int) + j := by rw [Int.add_comm]; exact Tx.w64 (by omega) (by omega)
  have HLOC := Lib.hid (fun (W : World) (hb : Below w.heap.size w W) => module_Locals M _ j W (Kd.K_below kMod hb hM) n1 n2 hs h0 h1 t ht lp ll)
  have HK := Lib.hid hM
  obtain ⟨nl, hnl⟩ : ∃ nl, nl = t.f0 ++ (rd_TFun M.f2 j).f1 := ⟨_, rfl⟩
  rw [← hnl] at HLOC ⊢
  clear g0 hM hs ht l0 lp ll n1 hnl h0 h1 n2
  go_enter Tryz.func44, Tryz.ntmps44
  go_wp2_with (first | ((go_at_call 84); (with_reducible refine HS.out.mono ?_); rintro e w2 ⟨v1, v2, rfl, r1, r2, hb⟩; simp only [Option.getD_some, Option.isSome_some] at r1 r2 ⊢; obtain ⟨P1, k1, rfl⟩ := Kd.R_slice r1; obtain ⟨P2, k2, rfl⟩ := Kd.R_slice r2; have x0 := (hb.block w.heap.size (by simp)).trans (heap_alloc_new w _); have hsz : w.heap.size < w2.heap.size := (by have := hb.size; simp at this; omega); have HX0 := Lib.hid x0; have HR1 := Lib.hid r1; have HR2 := Lib.hid r2; have HB2 := Lib.hid hb; clear r1 r2 hb x0))
  have hB : Below w.heap.size w (w2.alloc (.cells #[.slice P1 t.f0.length k1, .slice P2 t.f1.length k2] 40)) := below_alloc (below_then (below_alloc (Below.refl _ _) _) (by simp) HB2.out) _
  have z6 := heap_alloc_new w2 (.cells #[.slice P1 t.f0.length k1, .slice P2 t.f1.length k2] 40)
  have z0 := blk_alloc HX0.out (.cells #[.slice P1 t.f0.length k1, .slice P2 t.f1.length k2] 40)
  have q1 : IntsR (w2.alloc (.cells #[.slice P1 t.f0.length k1, .slice P2 t.f1.length k2] 40)) w.heap.size (.slice P1 t.f0.length k1) t.f0 := Kd.R_alloc (intsR_lower HR1.out (by simp)) _
  have q2 : IntsR (w2.alloc (.cells #[.slice P1 t.f0.length k1, .slice P2 t.f1.length k2] 40)) w.heap.size (.slice P2 t.f1.length k2) t.f1 := Kd.R_alloc (intsR_lower HR2.out (by simp)) _
  have hsz2 : (w2.alloc (.cells #[.slice P1 t.f0.length k1, .slice P2 t.f1.length k2] 40)).heap.size = w2.heap.size + 1 := by simp
  generalize w2.alloc (.cells #[.slice P1 t.f0.length k1, .slice P2 t.f1.length k2] 40) = W at hB z6 z0 q1 q2 hsz2 ⊢
  have y0 := (blk_cell z0 0).trans rfl
  have y1 := (blk_cell z0 1).trans rfl
  have y2 := (blk_cell z0 2).trans rfl
  have y3 := (blk_cell z0 3).trans rfl
  have y4 := (blk_cell z0 4).trans rfl
  have y5 := (blk_cell z0 5).trans rfl
  have y6 := (blk_cell z0 6).trans rfl
  have y7 := (blk_cell z0 7).trans rfl
  have y8 := (blk_cell z6 0).trans rfl
  have y9 := (blk_cell z6 1).trans rfl
  have HBB := Lib.hid hB; have HQ1 := Lib.hid q1; have HQ2 := Lib.hid q2
  clear hB z6 z0 q1 q2
  refine start_ (n := 13) (S := fun w' => w'.cell? ⟨w.heap.size, 0, none⟩ = some (.slice A0 M.f0.length c0) ∧ w'.cell? ⟨w.heap.size, 1, none⟩ = some (.slice A1 M.f1.length c1) ∧ w'.cell? ⟨w.heap.size, 2, none⟩ = some (.slice A2 M.f2.length c2) ∧ w'.cell? ⟨w.heap.size, 3, none⟩ = some (.slice A3 M.f3.length c3) ∧ w'.cell? ⟨w.heap.size, 4, none⟩ = some (.slice A4 M.f4.length c4) ∧ w'.cell? ⟨w.heap.size, 5, none⟩ = some (.slice A5 M.f5.length c5) ∧ w'.cell? ⟨w.heap.size, 6, none⟩ = some (.slice A6 M.f6.length c6) ∧ w'.cell? ⟨w.heap.size, 7, none⟩ = some (.slice A7 M.f7.length c7) ∧ w'.cell? ⟨w2.heap.size, 0, none⟩ = some (.slice P1 t.f0.length k1) ∧ w'.cell? ⟨w2.heap.size, 1, none⟩ = some (.slice P2 t.f1.length k2)) (ds := []) #[false, false, false, false, false, false, false, false, false, false, false, false, false] (by kernel_rfl) rfl rfl ⟨y0, y1, y2, y3, y4, y5, y6, y7, y8, y9⟩ (fun hHeld => ?_)
  refine take_ (i := 0) (N := some 19) (v := ?_) (a' := ?_) #[true, false, false, false, false, false, false, false, false, false, false, false, false] rfl rfl (by kernel_rfl) (fun _ _ _ h => h) (Or.inl ⟨by rfl, ?_⟩) hHeld ?_ ?_
  rotate_left
  · rintro w' ⟨s0, s1, s2, s3, s4, s5, s6, s7, s8, s9⟩
    go_simp
    try with_reducible rfl
  rotate_left
  · simp only [Act.put, List.setIfInBounds_toArray, List.set_cons_zero, List.set_cons_succ, i64_w, i32_w]
    rfl
  refine take_ (i := 1) (N := some 20) (v := ?_) (a' := ?_) #[true, true, false, false, false, false, false, false, false, false, false, false, false] rfl rfl (by kernel_rfl) (fun _ _ _ h => h) (Or.inl ⟨by rfl, ?_⟩) hHeld ?_ ?_
  rotate_left
  · rintro w' ⟨s0, s1, s2, s3, s4, s5, s6, s7, s8, s9⟩
    go_simp
    try with_reducible rfl
  rotate_left
  · simp only [Act.put, List.setIfInBounds_toArray, List.set_cons_zero, List.set_cons_succ, i64_w, i32_w]
    rfl
  refine pure_ (i := 2) (N := some 21) (v := ?_) (a' := ?_) #[true, true, true, false, false, false, false, false, false, false, false, false, false] rfl rfl (by kernel_rfl) (fun _ _ _ h => h) (Or.inl ⟨by rfl, ?_⟩) ?_ ?_
  rotate_left
  · intro w'
    go_simp
    try with_reducible rfl
  rotate_left
  · simp only [Act.put, List.setIfInBounds_toArray, List.set_cons_zero, List.set_cons_succ, i64_w, i32_w]
    rfl
  refine take_ (i := 4) (N := some 23) (v := ?_) (a' := ?_) #[true, true, true, false, true, false, false, false, false, false, false, false, false] rfl rfl (by kernel_rfl) (fun _ _ _ h => h) (Or.inl ⟨by rfl, ?_⟩) hHeld ?_ ?_
  rotate_left
  · rintro w' ⟨s0, s1, s2, s3, s4, s5, s6, s7, s8, s9⟩
    go_simp
    try with_reducible rfl
  rotate_left
  · simp only [Act.put, List.setIfInBounds_toArray, List.set_cons_zero, List.set_cons_succ, i64_w, i32_w]
    rfl
  refine pure_ (i := 5) (N := some 24) (v := ?_) (a' := ?_) #[true, true, true, false, true, true, false, false, false, false, false, false, false] rfl rfl (by kernel_rfl) (fun _ _ _ h => h) (Or.inl ⟨by rfl, ?_⟩) ?_ ?_
  rotate_left
  · intro w'
    go_simp
    try with_reducible rfl
  rotate_left
  · simp only [Act.put, List.setIfInBounds_toArray, List.set_cons_zero, List.set_cons_succ, i64_w, i32_w]
    rfl
  refine take_ (i := 6) (N := some 25) (v := ?_) (a' := ?_) #[true, true, true, false, true, true, true, false, false, false, false, false, false] rfl rfl (by kernel_rfl) (fun _ _ _ h => h) (Or.inl ⟨by rfl, ?_⟩) hHeld ?_ ?_
  rotate_left
  · rintro w' ⟨s0, s1, s2, s3, s4, s5, s6, s7, s8, s9⟩
    go_simp
    try with_reducible rfl
  rotate_left
  · simp only [Act.put, List.setIfInBounds_toArray, List.set_cons_zero, List.set_cons_succ, i64_w, i32_w]
    rfl
  refine pure_ (i := 7) (N := some 26) (v := ?_) (a' := ?_) #[true, true, true, false, true, true, true, true, false, false, false, false, false] rfl rfl (by kernel_rfl) (fun _ _ _ h => h) (Or.inl ⟨by rfl, ?_⟩) ?_ ?_
  rotate_left
  · intro w'
    go_simp
    try with_reducible rfl
  rotate_left
  · simp only [Act.put, List.setIfInBounds_toArray, List.set_cons_zero, List.set_cons_succ, i64_w, i32_w]
    rfl
  refine pure_ (i := 8) (N := some 27) (v := ?_) (a' := ?_) #[true, true, true, false, true, true, true, true, true, false, false, false, false] rfl rfl (by kernel_rfl) (fun _ _ _ h => h) (Or.inl ⟨by rfl, ?_⟩) ?_ ?_
  rotate_left
  · intro w'
    go_simp
    try with_reducible rfl
  rotate_left
  · simp only [Act.put, List.setIfInBounds_toArray, List.set_cons_zero, List.set_cons_succ, i64_w, i32_w]
    rfl
  refine two_ (i := 3) (j := 9) (Ni := some 22) (Nj := some 28) #[true, true, true, true, true, true, true, true, true, false, false, false, false] #[true, true, true, false, true, true, true, true, true, true, false, false, false] rfl rfl rfl rfl (by kernel_rfl) (by decide) (by decide) (fun K hK => ?_) (fun K hK => ?_)
  · skip
    refine goes_ Tryz.func85 (by kernel_rfl) rfl #[.agg #[.slice A0 M.f0.length c0, .slice A1 M.f1.length c1, .slice A2 M.f2.length c2, .slice A3 M.f3.length c3, .slice A4 M.f4.length c4, .slice A5 M.f5.length c5, .slice A6 M.f6.length c6, .slice A7 M.f7.length c7], .int .i64 ((M.f1.length : Int) + j)] (by rfl) rfl rfl (by simp only [List.map_toArray, List.map_cons, List.map_nil]; rfl) ?_
    refine (HLOC.out W.drew (below_drew HBB.out)).mono ?_
    rintro e w4 ⟨v4, rfl, r4, hb4⟩
    obtain ⟨P4, k4, rfl⟩ := Kd.R_slice r4
    have HR4 := Lib.hid r4; have HB4 := Lib.hid hb4
    refine ⟨_, rfl, ?_⟩
    refine hK.out _ _ (by obtain ⟨s0, s1, s2, s3, s4, s5, s6, s7, s8, s9⟩ := hHeld; exact ⟨(HB4.out.cell (World.block_lt_of_cell? _ _ s0)).trans s0, (HB4.out.cell (World.block_lt_of_cell? _ _ s1)).trans s1, (HB4.out.cell (World.block_lt_of_cell? _ _ s2)).trans s2, (HB4.out.cell (World.block_lt_of_cell? _ _ s3)).trans s3, (HB4.out.cell (World.block_lt_of_cell? _ _ s4)).trans s4, (HB4.out.cell (World.block_lt_of_cell? _ _ s5)).trans s5, (HB4.out.cell (World.block_lt_of_cell? _ _ s6)).trans s6, (HB4.out.cell (World.block_lt_of_cell? _ _ s7)).trans s7, (HB4.out.cell (World.block_lt_of_cell? _ _ s8)).trans s8, (HB4.out.cell (World.block_lt_of_cell? _ _ s9)).trans s9⟩) (fun hHeld => ?_)
    clear hK K
    refine norm_ (a' := ?_) ?_ ?_
    rotate_left
    · show Act.put _ (some 22) _ = _
      simp only [Act.put, List.setIfInBounds_toArray, List.set_cons_zero, List.set_cons_succ, i64_w, i32_w]
      rfl
    refine one_ (i := 9) (N := some 28) #[true, true, true, true, true, true, true, true, true, true, false, false, false] rfl rfl (by kernel_rfl) (by decide) (fun K hK => ?_)
    rw [if_pos (by rfl)]
    go_simp
    refine hK.out _ _ (by obtain ⟨s0, s1, s2, s3, s4, s5, s6, s7, s8, s9⟩ := hHeld; exact ⟨cell_al s0, cell_al s1, cell_al s2, cell_al s3, cell_al s4, cell_al s5, cell_al s6, cell_al s7, cell_al s8, cell_al s9⟩) (fun hHeld => ?_)
    clear hK K
    refine pure_ (i := 10) (N := some 29) (v := ?_) (a' := ?_) #[true, true, true, true, true, true, true, true, true, true, true, false, false] rfl rfl (by kernel_rfl) (fun _ _ _ h => h) (Or.inl ⟨by rfl, ?_⟩) ?_ ?_
    rotate_left
    · intro w'
      go_simp
      try with_reducible rfl
    rotate_left
    · simp only [Act.put, List.setIfInBounds_toArray, List.set_cons_zero, List.set_cons_succ, i64_w, i32_w]
      rfl
    refine one_ (i := 11) (N := some 30) #[true, true, true, true, true, true, true, true, true, true, true, true, false] rfl rfl (by kernel_rfl) (by decide) (fun K hK => ?_)
    rw [if_pos (by rfl)]
    go_simp
    refine hK.out _ _ (by obtain ⟨s0, s1, s2, s3, s4, s5, s6, s7, s8, s9⟩ := hHeld; exact ⟨cell_al s0, cell_al s1, cell_al s2, cell_al s3, cell_al s4, cell_al s5, cell_al s6, cell_al s7, cell_al s8, cell_al s9⟩) (fun hHeld => ?_)
    clear hK K
    refine pure_ (i := 12) (N := some 4) (v := ?_) (a' := ?_) #[true, true, true, true, true, true, true, true, true, true, true, true, true] rfl rfl (by kernel_rfl) (fun _ _ _ h => h) (Or.inl ⟨by rfl, ?_⟩) ?_ ?_
    rotate_left
    · intro w'
      go_simp
      try with_reducible rfl
    rotate_left
    · simp only [Act.put, List.setIfInBounds_toArray, List.set_cons_zero, List.set_cons_succ, i64_w, i32_w]
      rfl
    refine done_ (by kernel_rfl) ?_
    go_wp2_with fail
    go_ret
    have hb := HB4.out
    have hs := HBB.out.size
    have b4 : Below w.heap.size w w4 := below_then (below_drew HBB.out) (by simpa using HBB.out.size) HB4.out
    have q4 : IntsR w4 w.heap.size (.slice P4 nl.length k4) nl := intsR_lower HR4.out (by simpa using HBB.out.size)
    have q1 : IntsR w4 w.heap.size (.slice P1 t.f0.length k1) t.f0 := Kd.R_below (Kd.R_drew HQ1.out) HB4.out
    have q2 : IntsR w4 w.heap.size (.slice P2 t.f1.length k2) t.f1 := Kd.R_below (Kd.R_drew HQ2.out) HB4.out
    have hf := frames_lit w4 w.heap.size (fun _ => True) b4.size ⟨2, ⟨[], t.f1⟩, 0, false⟩ (.slice none 0 0) (.slice P2 t.f1.length k2) (Kd.R_nil _ _ _ _ _) q2 trivial
    have hsz5 : (w4.alloc (.cells #[.int .i64 2, .slice none 0 0, .slice P2 t.f1.length k2, .int .i64 0, .bool false] 113)).heap.size = w4.heap.size + 1 := by simp
    have hc := new_close (E := ⟨M, nl, t⟩) (vL := .slice P4 nl.length k4) (v1 := .slice P1 t.f0.length k1) (v2 := .slice P2 t.f1.length k2) (X := w4.alloc (.cells #[.int .i64 2, .slice none 0 0, .slice P2 t.f1.length k2, .int .i64 0, .bool false] 113)) HK.out rfl (below_alloc b4 _) (Kd.R_alloc q4 _) (Kd.R_alloc q1 _) (Kd.R_alloc q2 _) hf (fun k hk => by
      rcases hk with h | h | h
      · have := Kd.R_lt q4 k h.symm; omega
      · have := Kd.R_lt q1 k h.symm; omega
      · have := Kd.R_lt q2 k h.symm; omega)
    rw [hsz5] at hc
    exact hc
  · skip
    rw [if_pos (by rfl)]
    go_simp
    refine hK.out _ _ (by obtain ⟨s0, s1, s2, s3, s4, s5, s6, s7, s8, s9⟩ := hHeld; exact ⟨cell_al s0, cell_al s1, cell_al s2, cell_al s3, cell_al s4, cell_al s5, cell_al s6, cell_al s7, cell_al s8, cell_al s9⟩) (fun hHeld => ?_)
    clear hK K
    refine one_ (i := 3) (N := some 22) #[true, true, true, true, true, true, true, true, true, true, false, false, false] rfl rfl (by kernel_rfl) (by decide) (fun K hK => ?_)
    refine goes_ Tryz.func85 (by kernel_rfl) rfl #[.agg #[.slice A0 M.f0.length c0, .slice A1 M.f1.length c1, .slice A2 M.f2.length c2, .slice A3 M.f3.length c3, .slice A4 M.f4.length c4, .slice A5 M.f5.length c5, .slice A6 M.f6.length c6, .slice A7 M.f7.length c7], .int .i64 ((M.f1.length : Int) + j)] (by rfl) rfl rfl (by simp only [List.map_toArray, List.map_cons, List.map_nil]; rfl) ?_
    refine (HLOC.out (W.drew.alloc (.cells #[.int .i64 2, .slice none 0 0, .slice P2 t.f1.length k2, .int .i64 0, .bool false] 113)) (below_alloc (below_drew HBB.out) _)).mono ?_
    rintro e w4 ⟨v4, rfl, r4, hb4⟩
    obtain ⟨P4, k4, rfl⟩ := Kd.R_slice r4
    have HR4 := Lib.hid r4; have HB4 := Lib.hid hb4
    refine ⟨_, rfl, ?_⟩
    refine hK.out _ _ (by obtain ⟨s0, s1, s2, s3, s4, s5, s6, s7, s8, s9⟩ := hHeld; exact ⟨(HB4.out.cell (World.block_lt_of_cell? _ _ s0)).trans s0, (HB4.out.cell (World.block_lt_of_cell? _ _ s1)).trans s1, (HB4.out.cell (World.block_lt_of_cell? _ _ s2)).trans s2, (HB4.out.cell (World.block_lt_of_cell? _ _ s3)).trans s3, (HB4.out.cell (World.block_lt_of_cell? _ _ s4)).trans s4, (HB4.out.cell (World.block_lt_of_cell? _ _ s5)).trans s5, (HB4.out.cell (World.block_lt_of_cell? _ _ s6)).trans s6, (HB4.out.cell (World.block_lt_of_cell? _ _ s7)).trans s7, (HB4.out.cell (World.block_lt_of_cell? _ _ s8)).trans s8, (HB4.out.cell (World.block_lt_of_cell? _ _ s9)).trans s9⟩) (fun hHeld => ?_)
    clear hK K
    refine norm_ (a' := ?_) ?_ ?_
    rotate_left
    · show Act.put _ (some 22) _ = _
      simp only [Act.put, List.setIfInBounds_toArray, List.set_cons_zero, List.set_cons_succ, i64_w, i32_w]
      rfl
    refine pure_ (i := 10) (N := some 29) (v := ?_) (a' := ?_) #[true, true, true, true, true, true, true, true, true, true, true, false, false] rfl rfl (by kernel_rfl) (fun _ _ _ h => h) (Or.inl ⟨by rfl, ?_⟩) ?_ ?_
    rotate_left
    · intro w'
      go_simp
      try with_reducible rfl
    rotate_left
    · simp only [Act.put, List.setIfInBounds_toArray, List.set_cons_zero, List.set_cons_succ, i64_w, i32_w]
      rfl
    refine one_ (i := 11) (N := some 30) #[true, true, true, true, true, true, true, true, true, true, true, true, false] rfl rfl (by kernel_rfl) (by decide) (fun K hK => ?_)
    rw [if_pos (by rfl)]
    go_simp
    refine hK.out _ _ (by obtain ⟨s0, s1, s2, s3, s4, s5, s6, s7, s8, s9⟩ := hHeld; exact ⟨cell_al s0, cell_al s1, cell_al s2, cell_al s3, cell_al s4, cell_al s5, cell_al s6, cell_al s7, cell_al s8, cell_al s9⟩) (fun hHeld => ?_)
    clear hK K
    refine pure_ (i := 12) (N := some 4) (v := ?_) (a' := ?_) #[true, true, true, true, true, true, true, true, true, true, true, true, true] rfl rfl (by kernel_rfl) (fun _ _ _ h => h) (Or.inl ⟨by rfl, ?_⟩) ?_ ?_
    rotate_left
    · intro w'
      go_simp
      try with_reducible rfl
    rotate_left
    · simp only [Act.put, List.setIfInBounds_toArray, List.set_cons_zero, List.set_cons_succ, i64_w, i32_w]
      rfl
    refine done_ (by kernel_rfl) ?_
    go_wp2_with fail
    go_ret
    have hb := HB4.out
    have hs := HBB.out.size
    have b4 : Below w.heap.size w w4 := below_then (below_alloc (below_drew HBB.out) (.cells #[.int .i64 2, .slice none 0 0, .slice P2 t.f1.length k2, .int .i64 0, .bool false] 113)) (by simp; omega) HB4.out
    have q4' : IntsR w4 (W.heap.size + 1) (.slice P4 nl.length k4) nl := by have := HR4.out; simpa using this
    have q4 : IntsR w4 w.heap.size (.slice P4 nl.length k4) nl := intsR_lower q4' (by omega)
    have q1' : IntsR W w.heap.size (.slice P1 t.f0.length k1) t.f0 := HQ1.out
    have q2' : IntsR W w.heap.size (.slice P2 t.f1.length k2) t.f1 := HQ2.out
    have q1 : IntsR w4 w.heap.size (.slice P1 t.f0.length k1) t.f0 := Kd.R_below (Kd.R_alloc (Kd.R_drew q1') (.cells #[.int .i64 2, .slice none 0 0, .slice P2 t.f1.length k2, .int .i64 0, .bool false] 113)) HB4.out
    have q2 : IntsR w4 w.heap.size (.slice P2 t.f1.length k2) t.f1 := Kd.R_below (Kd.R_alloc (Kd.R_drew q2') (.cells #[.int .i64 2, .slice none 0 0, .slice P2 t.f1.length k2, .int .i64 0, .bool false] 113)) HB4.out
    have hf := Kd.R_below (frames_lit W.drew w.heap.size (fun _ => True) (by simpa using HBB.out.size) ⟨2, ⟨[], t.f1⟩, 0, false⟩ (.slice none 0 0) (.slice P2 t.f1.length k2) (Kd.R_nil _ _ _ _ _) (Kd.R_drew q2') trivial) HB4.out
    rw [show W.drew.heap.size = w2.heap.size + 1 from hsz2] at hf
    exact new_close (E := ⟨M, nl, t⟩) (vL := .slice P4 nl.length k4) (v1 := .slice P1 t.f0.length k1) (v2 := .slice P2 t.f1.length k2) (X := w4) HK.out rfl b4 q4 q1 q2 hf (fun k hk => by
      rcases hk with h | h | h
      · have := Kd.R_base q4' k h.symm; omega
      · have := Kd.R_lt q1' k h.symm; omega
      · have := Kd.R_lt q2' k h.symm; omega)
end Go.Proofs.YthehihjcpiadgaaGreat
end
