/-
  No cell of these rows narrows 'for every input' (looked for: loops, veiled, ifaces, maps, wideKeys, modest, calm, conditions, laid).
  DERIVED. THE GIVEN ROWS OF THIS SEAT. 9 by the template 'for every input the law returns true; each argument reads behind the call as it read before'; 0 by the template 'total and deterministic' (their statements: YthehihjcpiadgaaGreatTotals.lean).
  GIVEN WITH THE SEED: the statements are not yours to turn. If you find one false, say at which input.
  Laid BY PROGRAM, IN A SANDBOX (cutbox-rows.mjs): the forced cells as the released guide's own fill.sh prints them over the translation d5975808998f8a92… (all of the seat's roots in one cut). By AI agents, Wed Nov 11 2026. No macro, syntax, notation, axiom, sorry.
-/
import Derived.Test.YthehihjcpiadgaaGreatChecked
import GoSem.Claim
import GoSem.ClaimJoined
import GoSem.ClaimMapViews
import Derived.JoinedTies
import Derived.KernelRfl
namespace Go.Proofs.YthehihjcpiadgaaGreat
/- THE CELL 'sum', in the pinned program and in every row, IS THE sha256 OF THE DUMP (.gsa) THAT YthehihjcpiadgaaGreatProg.lean LOADS. Nothing in Lean hashes anything: it is a label: what it is worth is what the hold of that sum in a sandbox is worth. -/
noncomputable def Tryz.pinned : Pinned := { name := "ythehihjcpiadgaagreat", sum := "d5975808998f8a922ed2e6ef5b247fb0a65179500e2ce79318001b2c6639bc40", checked := Tryz.checked }
namespace Rows
def none {H : Type} : Left H := { results := [], args := [] }

/-- 'plainsonglaw10.CheckNumbers': WHATEVER THE INPUT: true; the input reads as it did. -/
def checkNumbersSpec : ChangeSpec := { name := "checkNumbers", fn := fun _ => fun
  | [] => { results := [.lit (.bool true)], args := [] }
  | _ => none }
def checkNumbersRow : OpenClaim := { program := "ythehihjcpiadgaagreat", sum := "d5975808998f8a922ed2e6ef5b247fb0a65179500e2ce79318001b2c6639bc40", func := "plainsong/plainsonglaw10.CheckNumbers", spec := "checkNumbers", unfollowed := true, recurses := true, apart := false }
def CheckNumbersSaid : Prop := checkNumbersRow.holds Tryz.pinned (OpenSpec.ofChange checkNumbersSpec)

/-- ITS FALSE NEIGHBOUR: 'it returns false'. Refute it at one input. -/
def checkNumbersWrong : ChangeSpec := { name := "checkNumbers", fn := fun _ => fun
  | [] => { results := [.lit (.bool false)], args := [] }
  | _ => none }
def CheckNumbersWrongFalsely : Prop := checkNumbersRow.holds Tryz.pinned (OpenSpec.ofChange checkNumbersWrong)

/-- 'plainsonglaw10.CheckTells': WHATEVER THE INPUT: true; the input reads as it did. -/
def checkTellsSpec : ChangeSpec := { name := "checkTells", fn := fun _ => fun
  | [d1, d2, d3] => { results := [.lit (.bool true)], args := [d1, d2, d3] }
  | _ => none }
def checkTellsRow : OpenClaim := { program := "ythehihjcpiadgaagreat", sum := "d5975808998f8a922ed2e6ef5b247fb0a65179500e2ce79318001b2c6639bc40", func := "plainsong/plainsonglaw10.CheckTells", spec := "checkTells", unfollowed := true, recurses := true, apart := false }
def CheckTellsSaid : Prop := checkTellsRow.holds Tryz.pinned (OpenSpec.ofChange checkTellsSpec)

/-- ITS FALSE NEIGHBOUR: 'it returns false'. Refute it at one input. -/
def checkTellsWrong : ChangeSpec := { name := "checkTells", fn := fun _ => fun
  | [d1, d2, d3] => { results := [.lit (.bool false)], args := [d1, d2, d3] }
  | _ => none }
def CheckTellsWrongFalsely : Prop := checkTellsRow.holds Tryz.pinned (OpenSpec.ofChange checkTellsWrong)

/-- 'plainsonglaw10.CheckFuncs': WHATEVER THE INPUT: true; the input reads as it did. -/
def checkFuncsSpec : ChangeSpec := { name := "checkFuncs", fn := fun _ => fun
  | [d1, d2] => { results := [.lit (.bool true)], args := [d1, d2] }
  | _ => none }
def checkFuncsRow : OpenClaim := { program := "ythehihjcpiadgaagreat", sum := "d5975808998f8a922ed2e6ef5b247fb0a65179500e2ce79318001b2c6639bc40", func := "plainsong/plainsonglaw10.CheckFuncs", spec := "checkFuncs", unfollowed := true, recurses := true, apart := false }
def CheckFuncsSaid : Prop := checkFuncsRow.holds Tryz.pinned (OpenSpec.ofChange checkFuncsSpec)

/-- ITS FALSE NEIGHBOUR: 'it returns false'. Refute it at one input. -/
def checkFuncsWrong : ChangeSpec := { name := "checkFuncs", fn := fun _ => fun
  | [d1, d2] => { results := [.lit (.bool false)], args := [d1, d2] }
  | _ => none }
def CheckFuncsWrongFalsely : Prop := checkFuncsRow.holds Tryz.pinned (OpenSpec.ofChange checkFuncsWrong)

/-- 'plainsonglaw10.CheckMade': WHATEVER THE INPUT: true; the input reads as it did. -/
def checkMadeSpec : ChangeSpec := { name := "checkMade", fn := fun _ => fun
  | [d1, d2] => { results := [.lit (.bool true)], args := [d1, d2] }
  | _ => none }
def checkMadeRow : OpenClaim := { program := "ythehihjcpiadgaagreat", sum := "d5975808998f8a922ed2e6ef5b247fb0a65179500e2ce79318001b2c6639bc40", func := "plainsong/plainsonglaw10.CheckMade", spec := "checkMade", unfollowed := true, recurses := true, apart := false }
def CheckMadeSaid : Prop := checkMadeRow.holds Tryz.pinned (OpenSpec.ofChange checkMadeSpec)

/-- ITS FALSE NEIGHBOUR: 'it returns false'. Refute it at one input. -/
def checkMadeWrong : ChangeSpec := { name := "checkMade", fn := fun _ => fun
  | [d1, d2] => { results := [.lit (.bool false)], args := [d1, d2] }
  | _ => none }
def CheckMadeWrongFalsely : Prop := checkMadeRow.holds Tryz.pinned (OpenSpec.ofChange checkMadeWrong)

/-- 'plainsonglaw10.CheckDead': WHATEVER THE INPUT: true; the input reads as it did. -/
def checkDeadSpec : ChangeSpec := { name := "checkDead", fn := fun _ => fun
  | [d1, d2] => { results := [.lit (.bool true)], args := [d1, d2] }
  | _ => none }
def checkDeadRow : OpenClaim := { program := "ythehihjcpiadgaagreat", sum := "d5975808998f8a922ed2e6ef5b247fb0a65179500e2ce79318001b2c6639bc40", func := "plainsong/plainsonglaw10.CheckDead", spec := "checkDead", unfollowed := true, recurses := true, apart := false }
def CheckDeadSaid : Prop := checkDeadRow.holds Tryz.pinned (OpenSpec.ofChange checkDeadSpec)

/-- ITS FALSE NEIGHBOUR: 'it returns false'. Refute it at one input. -/
def checkDeadWrong : ChangeSpec := { name := "checkDead", fn := fun _ => fun
  | [d1, d2] => { results := [.lit (.bool false)], args := [d1, d2] }
  | _ => none }
def CheckDeadWrongFalsely : Prop := checkDeadRow.holds Tryz.pinned (OpenSpec.ofChange checkDeadWrong)

/-- 'plainsonglaw11.StacksNumbers': WHATEVER THE INPUT: true; the input reads as it did. -/
def stacksNumbersSpec : ChangeSpec := { name := "stacksNumbers", fn := fun _ => fun
  | [] => { results := [.lit (.bool true)], args := [] }
  | _ => none }
def stacksNumbersRow : OpenClaim := { program := "ythehihjcpiadgaagreat", sum := "d5975808998f8a922ed2e6ef5b247fb0a65179500e2ce79318001b2c6639bc40", func := "plainsong/plainsonglaw11.StacksNumbers", spec := "stacksNumbers", unfollowed := true, recurses := true, apart := false }
def StacksNumbersSaid : Prop := stacksNumbersRow.holds Tryz.pinned (OpenSpec.ofChange stacksNumbersSpec)

/-- ITS FALSE NEIGHBOUR: 'it returns false'. Refute it at one input. -/
def stacksNumbersWrong : ChangeSpec := { name := "stacksNumbers", fn := fun _ => fun
  | [] => { results := [.lit (.bool false)], args := [] }
  | _ => none }
def StacksNumbersWrongFalsely : Prop := stacksNumbersRow.holds Tryz.pinned (OpenSpec.ofChange stacksNumbersWrong)

/-- 'plainsonglaw11.StacksTells': WHATEVER THE INPUT: true; the input reads as it did. -/
def stacksTellsSpec : ChangeSpec := { name := "stacksTells", fn := fun _ => fun
  | [d1, d2] => { results := [.lit (.bool true)], args := [d1, d2] }
  | _ => none }
def stacksTellsRow : OpenClaim := { program := "ythehihjcpiadgaagreat", sum := "d5975808998f8a922ed2e6ef5b247fb0a65179500e2ce79318001b2c6639bc40", func := "plainsong/plainsonglaw11.StacksTells", spec := "stacksTells", unfollowed := true, recurses := true, apart := false }
def StacksTellsSaid : Prop := stacksTellsRow.holds Tryz.pinned (OpenSpec.ofChange stacksTellsSpec)

/-- ITS FALSE NEIGHBOUR: 'it returns false'. Refute it at one input. -/
def stacksTellsWrong : ChangeSpec := { name := "stacksTells", fn := fun _ => fun
  | [d1, d2] => { results := [.lit (.bool false)], args := [d1, d2] }
  | _ => none }
def StacksTellsWrongFalsely : Prop := stacksTellsRow.holds Tryz.pinned (OpenSpec.ofChange stacksTellsWrong)

/-- 'plainsonglaw11.StacksEnds': WHATEVER THE INPUT: true; the input reads as it did. -/
def stacksEndsSpec : ChangeSpec := { name := "stacksEnds", fn := fun _ => fun
  | [d] => { results := [.lit (.bool true)], args := [d] }
  | _ => none }
def stacksEndsRow : OpenClaim := { program := "ythehihjcpiadgaagreat", sum := "d5975808998f8a922ed2e6ef5b247fb0a65179500e2ce79318001b2c6639bc40", func := "plainsong/plainsonglaw11.StacksEnds", spec := "stacksEnds", unfollowed := true, recurses := true, apart := false }
def StacksEndsSaid : Prop := stacksEndsRow.holds Tryz.pinned (OpenSpec.ofChange stacksEndsSpec)

/-- ITS FALSE NEIGHBOUR: 'it returns false'. Refute it at one input. -/
def stacksEndsWrong : ChangeSpec := { name := "stacksEnds", fn := fun _ => fun
  | [d] => { results := [.lit (.bool false)], args := [d] }
  | _ => none }
def StacksEndsWrongFalsely : Prop := stacksEndsRow.holds Tryz.pinned (OpenSpec.ofChange stacksEndsWrong)

/-- 'plainsonglaw11.StacksShrink': WHATEVER THE INPUT: true; the input reads as it did. -/
def stacksShrinkSpec : ChangeSpec := { name := "stacksShrink", fn := fun _ => fun
  | [d] => { results := [.lit (.bool true)], args := [d] }
  | _ => none }
def stacksShrinkRow : OpenClaim := { program := "ythehihjcpiadgaagreat", sum := "d5975808998f8a922ed2e6ef5b247fb0a65179500e2ce79318001b2c6639bc40", func := "plainsong/plainsonglaw11.StacksShrink", spec := "stacksShrink", unfollowed := true, recurses := true, apart := false }
def StacksShrinkSaid : Prop := stacksShrinkRow.holds Tryz.pinned (OpenSpec.ofChange stacksShrinkSpec)

/-- ITS FALSE NEIGHBOUR: 'it returns false'. Refute it at one input. -/
def stacksShrinkWrong : ChangeSpec := { name := "stacksShrink", fn := fun _ => fun
  | [d] => { results := [.lit (.bool false)], args := [d] }
  | _ => none }
def StacksShrinkWrongFalsely : Prop := stacksShrinkRow.holds Tryz.pinned (OpenSpec.ofChange stacksShrinkWrong)

/- THE SECOND FORM. 'bulk': how many values and letters a reading holds, each counted each time it is reached (what is shared counts as often as it is met; a slice's spare places count too). A statement '..UptoSaid' is the law's where the arguments, and the package variables that the reading takes, are together of bulk at most 1048576: NARROWER than '..Said'. Prove '..Said' where nothing that the law and all that it calls make is longer than what came in: it says more and counts as full. Else prove '..UptoSaid'. A law counts once. -/
mutual
def uptoBulk {H : Type} : DataW H → Nat
  | .lit (.string bytes) => bytes.length + 1
  | .lit _ => 1
  | .nil => 1
  | .ptr d => uptoBulk d + 1
  | .slice elems spare => uptoBulkAll elems + uptoBulkAll spare + 1
  | .agg parts => uptoBulkAll parts + 1
  | .iface _ d => uptoBulk d + 1
  | .map entries => uptoBulkEntries entries + 1
  | .held _ => 1
def uptoBulkAll {H : Type} : List (DataW H) → Nat
  | [] => 0
  | d :: r => uptoBulk d + uptoBulkAll r
def uptoBulkEntries {H : Type} : List (Lit × DataW H) → Nat
  | [] => 0
  | x :: r => uptoBulkEntry x + uptoBulkEntries r
def uptoBulkEntry {H : Type} : Lit × DataW H → Nat
  | (.string bytes, d) => bytes.length + uptoBulk d + 1
  | (_, d) => uptoBulk d + 1
 end
def uptoSmall : (H : Type) → List (DataW H) → Bool := fun _ ds => decide (uptoBulkAll ds ≤ 1048576)
def OpenSpec.upto (s : _root_.Go.ChangeSpec) : _root_.Go.OpenSpec := { _root_.Go.OpenSpec.ofChange s with cond := some uptoSmall }

/-- 'plainsonglaw10.CheckNumbers', WHERE WHAT IT READS IS OF BULK AT MOST 1048576: true; the input reads as it did. -/
def checkNumbersUptoRow : OpenClaim := { program := "ythehihjcpiadgaagreat", sum := "d5975808998f8a922ed2e6ef5b247fb0a65179500e2ce79318001b2c6639bc40", func := "plainsong/plainsonglaw10.CheckNumbers", spec := "checkNumbers", unfollowed := true, recurses := true, apart := false, narrowed := true }
def CheckNumbersUptoSaid : Prop := checkNumbersUptoRow.holds Tryz.pinned (OpenSpec.upto checkNumbersSpec)

/-- 'plainsonglaw10.CheckTells', WHERE WHAT IT READS IS OF BULK AT MOST 1048576: true; the input reads as it did. -/
def checkTellsUptoRow : OpenClaim := { program := "ythehihjcpiadgaagreat", sum := "d5975808998f8a922ed2e6ef5b247fb0a65179500e2ce79318001b2c6639bc40", func := "plainsong/plainsonglaw10.CheckTells", spec := "checkTells", unfollowed := true, recurses := true, apart := false, narrowed := true }
def CheckTellsUptoSaid : Prop := checkTellsUptoRow.holds Tryz.pinned (OpenSpec.upto checkTellsSpec)

/-- 'plainsonglaw10.CheckFuncs', WHERE WHAT IT READS IS OF BULK AT MOST 1048576: true; the input reads as it did. -/
def checkFuncsUptoRow : OpenClaim := { program := "ythehihjcpiadgaagreat", sum := "d5975808998f8a922ed2e6ef5b247fb0a65179500e2ce79318001b2c6639bc40", func := "plainsong/plainsonglaw10.CheckFuncs", spec := "checkFuncs", unfollowed := true, recurses := true, apart := false, narrowed := true }
def CheckFuncsUptoSaid : Prop := checkFuncsUptoRow.holds Tryz.pinned (OpenSpec.upto checkFuncsSpec)

/-- 'plainsonglaw10.CheckMade', WHERE WHAT IT READS IS OF BULK AT MOST 1048576: true; the input reads as it did. -/
def checkMadeUptoRow : OpenClaim := { program := "ythehihjcpiadgaagreat", sum := "d5975808998f8a922ed2e6ef5b247fb0a65179500e2ce79318001b2c6639bc40", func := "plainsong/plainsonglaw10.CheckMade", spec := "checkMade", unfollowed := true, recurses := true, apart := false, narrowed := true }
def CheckMadeUptoSaid : Prop := checkMadeUptoRow.holds Tryz.pinned (OpenSpec.upto checkMadeSpec)

/-- 'plainsonglaw10.CheckDead', WHERE WHAT IT READS IS OF BULK AT MOST 1048576: true; the input reads as it did. -/
def checkDeadUptoRow : OpenClaim := { program := "ythehihjcpiadgaagreat", sum := "d5975808998f8a922ed2e6ef5b247fb0a65179500e2ce79318001b2c6639bc40", func := "plainsong/plainsonglaw10.CheckDead", spec := "checkDead", unfollowed := true, recurses := true, apart := false, narrowed := true }
def CheckDeadUptoSaid : Prop := checkDeadUptoRow.holds Tryz.pinned (OpenSpec.upto checkDeadSpec)

/-- 'plainsonglaw11.StacksNumbers', WHERE WHAT IT READS IS OF BULK AT MOST 1048576: true; the input reads as it did. -/
def stacksNumbersUptoRow : OpenClaim := { program := "ythehihjcpiadgaagreat", sum := "d5975808998f8a922ed2e6ef5b247fb0a65179500e2ce79318001b2c6639bc40", func := "plainsong/plainsonglaw11.StacksNumbers", spec := "stacksNumbers", unfollowed := true, recurses := true, apart := false, narrowed := true }
def StacksNumbersUptoSaid : Prop := stacksNumbersUptoRow.holds Tryz.pinned (OpenSpec.upto stacksNumbersSpec)

/-- 'plainsonglaw11.StacksTells', WHERE WHAT IT READS IS OF BULK AT MOST 1048576: true; the input reads as it did. -/
def stacksTellsUptoRow : OpenClaim := { program := "ythehihjcpiadgaagreat", sum := "d5975808998f8a922ed2e6ef5b247fb0a65179500e2ce79318001b2c6639bc40", func := "plainsong/plainsonglaw11.StacksTells", spec := "stacksTells", unfollowed := true, recurses := true, apart := false, narrowed := true }
def StacksTellsUptoSaid : Prop := stacksTellsUptoRow.holds Tryz.pinned (OpenSpec.upto stacksTellsSpec)

/-- 'plainsonglaw11.StacksEnds', WHERE WHAT IT READS IS OF BULK AT MOST 1048576: true; the input reads as it did. -/
def stacksEndsUptoRow : OpenClaim := { program := "ythehihjcpiadgaagreat", sum := "d5975808998f8a922ed2e6ef5b247fb0a65179500e2ce79318001b2c6639bc40", func := "plainsong/plainsonglaw11.StacksEnds", spec := "stacksEnds", unfollowed := true, recurses := true, apart := false, narrowed := true }
def StacksEndsUptoSaid : Prop := stacksEndsUptoRow.holds Tryz.pinned (OpenSpec.upto stacksEndsSpec)

/-- 'plainsonglaw11.StacksShrink', WHERE WHAT IT READS IS OF BULK AT MOST 1048576: true; the input reads as it did. -/
def stacksShrinkUptoRow : OpenClaim := { program := "ythehihjcpiadgaagreat", sum := "d5975808998f8a922ed2e6ef5b247fb0a65179500e2ce79318001b2c6639bc40", func := "plainsong/plainsonglaw11.StacksShrink", spec := "stacksShrink", unfollowed := true, recurses := true, apart := false, narrowed := true }
def StacksShrinkUptoSaid : Prop := stacksShrinkUptoRow.holds Tryz.pinned (OpenSpec.upto stacksShrinkSpec)

end Rows
end Go.Proofs.YthehihjcpiadgaaGreat
