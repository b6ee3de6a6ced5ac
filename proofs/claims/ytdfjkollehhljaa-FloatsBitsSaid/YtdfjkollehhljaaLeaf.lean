/- The leaves of the walk: the functions of package math that the program reaches. -/
import Derived.Test.YtdfjkollehhljaaRows
import Derived.Test.YtdfjkollehhljaaMath2
import Derived.WalkKit
import Derived.ProofKit
import Derived.Laws.FloatArith
import GoSem.Extern.MathFloatBits
import GoSem.Extern.MathFloor
import GoSem.Extern.MathSqrt
import Derived.Lib.Hide
import Derived.Deep.Draws
namespace Go.Proofs.Ytdfjkollehhljaa
open Go.RowKit

theorem call10 (n : Int) (w : World) : (callFunc 10 #[.int .u64 n]).run Try.prog w = .ok (.value (.float .f64 n.toNat)) w := by
  rw [run_callFunc_extern Try.func10 (by kernel_rfl) (by kernel_rfl) (by kernel_rfl) (e := Extern.MathFloatBits.float64frombits) (by kernel_rfl)]
  rfl

theorem call16 (b : Nat) (w : World) : (callFunc 16 #[.float .f64 b]).run Try.prog w = .ok (.value (.int .u64 b)) w := by
  rw [run_callFunc_extern Try.func16 (by kernel_rfl) (by kernel_rfl) (by kernel_rfl) (e := Extern.MathFloatBits.float64bits) (by kernel_rfl)]
  rfl

/-- Is it a NaN? -/
def nanB (b : Nat) : Bool := FloatKind.f64.format.order b b != some .eq

theorem isNaN_any (b : Nat) (w : World) : Calls Try.prog 19 #[.float .f64 b] w fun e w' => e = .returned (.bool (nanB b)) ∧ w = w' := by
  go_enter Try.func19, Try.ntmps19
  go_wp2
  go_ret
  exact ⟨rfl, rfl⟩

/-! ### NaNs -/
theorem nanB_read {b : Nat} : nanB b = match Ieee.double.read b with | .nan .. => true | _ => false := by
  unfold nanB FloatKind.format Ieee.Format.order
  cases h : Ieee.double.read b with
  | nan s t => rfl
  | infinity s => cases s <;> rfl
  | number s m p =>
    have e : compare (Ieee.signed s m (p - min p p).toNat) (Ieee.signed s m (p - min p p).toNat) = .eq := Int.compare_eq_eq.2 rfl
    simp only [Ieee.Datum.order, e]
    rfl

theorem nanB_nan {b : Nat} (h : 9218868437227405312 < b % 9223372036854775808) : nanB b = true := by
  obtain ⟨s, t, e⟩ := Fl.read_nan h
  rw [nanB_read, e]

theorem nan_word (s : Bool) (t : Nat) (h : 0 < t % 4503599627370496) : nanB (Ieee.double.write (.nan s t)) = true := by
  apply nanB_nan
  unfold Ieee.Format.write
  simp only [Fl.d_inf, Fl.d_bin]
  rw [Fl.word_mod (by omega)]
  omega

theorem quiet_pos (t : Nat) : 0 < (Ieee.double.quiet t) % 4503599627370496 := by
  unfold Ieee.Format.quiet
  have e : (4503599627370496 : Nat) = 2 ^ 52 := by decide
  rw [e, Nat.or_mod_two_pow]
  have : 2 ^ (Ieee.double.fractionBits - 1) % 2 ^ 52 = 2 ^ 51 := by rw [Fl.d_frac]
  rw [this]
  have := Nat.right_le_or (n := t % 2 ^ 52) (m := 2 ^ 51)
  omega

/-- A NaN comes of it, some draws were made. -/
def NanEnd (w : World) (e : Ending) (w' : World) : Prop := ∃ b n, nanB b = true ∧ e = .returned (.float .f64 b) ∧ w' = w.drewN n

/-- A number made whole. -/
def flr (way : Ieee.Toward) (x : Nat) : Nat := Ieee.double.write ((Ieee.double.read x).integral way)

/-- The rest of the entry, behind the reading of the word. -/
def wayOf (way : Ieee.Toward) (x : Nat) : Ieee.Datum → Sem Value
  | .nan s t =>
      if FloatKind.f64.format.quiet t = t then pure (.float .f64 x) else do
      let kept ← choose (.extern "math.Floor,Ceil,Trunc,RoundToEven.signallingNaN kept" 2)
      pure (.float .f64 (if kept == 1 then x else FloatKind.f64.encode (.nan s (FloatKind.f64.format.quiet t))))
  | d => pure (.float .f64 (FloatKind.f64.encode (d.integral way)))

theorem way_of (name : String) (way : Ieee.Toward) (x : Nat) : Extern.MathFloor.toIntegral name way #[.float .f64 x] = wayOf way x (Ieee.double.read x) := rfl

theorem whole_num {name : String} {way : Ieee.Toward} {x : Nat} {P : Program} (w : World) (h : nanB x = false) : (Extern.MathFloor.toIntegral name way #[.float .f64 x]).run P w = .ok (.float .f64 (flr way x)) w := by
  rw [nanB_read] at h
  rw [way_of]
  unfold flr
  cases hd : Ieee.double.read x with
  | nan s t => rw [hd] at h; cases h
  | infinity s => rfl
  | number s m p => rfl

theorem whole_nan {name : String} {way : Ieee.Toward} {x : Nat} {P : Program} (w : World) (h : nanB x = true) :
    ∃ b n, nanB b = true ∧ (Extern.MathFloor.toIntegral name way #[.float .f64 x]).run P w = .ok (.float .f64 b) (w.drewN n) := by
  have h0 := h
  rw [nanB_read] at h
  rw [way_of]
  cases hd : Ieee.double.read x with
  | infinity s => rw [hd] at h; cases h
  | number s m p => rw [hd] at h; cases h
  | nan s t =>
    simp only [wayOf]
    by_cases hq : FloatKind.f64.format.quiet t = t
    · rw [if_pos hq]
      exact ⟨x, 0, h0, rfl⟩
    · rw [if_neg hq]
      simp only [Sem.run_bind, run_choose_drew, Question.forced]
      simp only [show decide ((2 : Nat) = 1) = false from rfl, Bool.false_eq_true, if_false, Result.andThen]
      refine ⟨_, 1, ?_, rfl⟩
      split
      · exact h0
      · exact nan_word s _ (quiet_pos t)

theorem run30 (x : Nat) (w : World) : (callFunc 30 #[.float .f64 x]).run Try.prog w = ((Extern.MathFloor.toIntegral "math.archCeil" .up #[.float .f64 x]).run Try.prog w).andThen fun v w' => .ok (.value v) w' :=
  run_callFunc_extern Try.func30 (by kernel_rfl) (by kernel_rfl) (by kernel_rfl) (by kernel_rfl) _ _
theorem run32 (x : Nat) (w : World) : (callFunc 32 #[.float .f64 x]).run Try.prog w = ((Extern.MathFloor.toIntegral "math.archFloor" .down #[.float .f64 x]).run Try.prog w).andThen fun v w' => .ok (.value v) w' :=
  run_callFunc_extern Try.func32 (by kernel_rfl) (by kernel_rfl) (by kernel_rfl) (by kernel_rfl) _ _
theorem run34 (x : Nat) (w : World) : (callFunc 34 #[.float .f64 x]).run Try.prog w = ((Extern.MathFloor.toIntegral "math.archTrunc" .zero #[.float .f64 x]).run Try.prog w).andThen fun v w' => .ok (.value v) w' :=
  run_callFunc_extern Try.func34 (by kernel_rfl) (by kernel_rfl) (by kernel_rfl) (by kernel_rfl) _ _
theorem run23 (x : Nat) (w : World) : (callFunc 23 #[.float .f64 x]).run Try.prog w = ((Extern.MathFloor.toIntegral "math.RoundToEven" .even #[.float .f64 x]).run Try.prog w).andThen fun v w' => .ok (.value v) w' :=
  run_callFunc_extern Try.func23 (by kernel_rfl) (by kernel_rfl) (by kernel_rfl) (by kernel_rfl) _ _

theorem ceil_num {x : Nat} (w : World) (h : nanB x = false) : Calls Try.prog 20 #[.float .f64 x] w fun e w' => e = .returned (.float .f64 (flr .up x)) ∧ w = w' := by
  have hr := run30 x w
  rw [whole_num w h] at hr
  simp only [Result.andThen] at hr
  clear h
  go_enter Try.func20, Try.ntmps20
  go_wp2
  go_ret
  exact ⟨rfl, rfl⟩
theorem floor_num {x : Nat} (w : World) (h : nanB x = false) : Calls Try.prog 21 #[.float .f64 x] w fun e w' => e = .returned (.float .f64 (flr .down x)) ∧ w = w' := by
  have hr := run32 x w
  rw [whole_num w h] at hr
  simp only [Result.andThen] at hr
  clear h
  go_enter Try.func21, Try.ntmps21
  go_wp2
  go_ret
  exact ⟨rfl, rfl⟩
theorem trunc_num {x : Nat} (w : World) (h : nanB x = false) : Calls Try.prog 22 #[.float .f64 x] w fun e w' => e = .returned (.float .f64 (flr .zero x)) ∧ w = w' := by
  have hr := run34 x w
  rw [whole_num w h] at hr
  simp only [Result.andThen] at hr
  clear h
  go_enter Try.func22, Try.ntmps22
  go_wp2
  go_ret
  exact ⟨rfl, rfl⟩
theorem ceil_nan {x : Nat} (w : World) (h : nanB x = true) : Calls Try.prog 20 #[.float .f64 x] w (NanEnd w) := by
  have hr := run30 x w
  obtain ⟨b, n, hb, h2⟩ := whole_nan (name := "math.archCeil") (way := .up) (P := Try.prog) w h
  rw [h2] at hr
  simp only [Result.andThen] at hr
  have Hb := Lib.hid hb
  clear h h2 hb
  go_enter Try.func20, Try.ntmps20
  go_wp2
  go_ret
  exact ⟨b, n, Hb.out, rfl, rfl⟩
theorem floor_nan {x : Nat} (w : World) (h : nanB x = true) : Calls Try.prog 21 #[.float .f64 x] w (NanEnd w) := by
  have hr := run32 x w
  obtain ⟨b, n, hb, h2⟩ := whole_nan (name := "math.archFloor") (way := .down) (P := Try.prog) w h
  rw [h2] at hr
  simp only [Result.andThen] at hr
  have Hb := Lib.hid hb
  clear h h2 hb
  go_enter Try.func21, Try.ntmps21
  go_wp2
  go_ret
  exact ⟨b, n, Hb.out, rfl, rfl⟩
theorem trunc_nan {x : Nat} (w : World) (h : nanB x = true) : Calls Try.prog 22 #[.float .f64 x] w (NanEnd w) := by
  have hr := run34 x w
  obtain ⟨b, n, hb, h2⟩ := whole_nan (name := "math.archTrunc") (way := .zero) (P := Try.prog) w h
  rw [h2] at hr
  simp only [Result.andThen] at hr
  have Hb := Lib.hid hb
  clear h h2 hb
  go_enter Try.func22, Try.ntmps22
  go_wp2
  go_ret
  exact ⟨b, n, Hb.out, rfl, rfl⟩

end Go.Proofs.Ytdfjkollehhljaa
