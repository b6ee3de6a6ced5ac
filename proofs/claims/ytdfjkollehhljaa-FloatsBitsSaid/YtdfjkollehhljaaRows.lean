/-
  No cell of these rows narrows 'for every input' (looked for: loops, veiled, ifaces, maps, wideKeys, modest, calm, conditions, laid).
  DERIVED. THE GIVEN ROWS OF THIS SEAT. 4 by the template 'for every input the law returns true; each argument reads behind the call as it read before'; 0 by the template 'total and deterministic' (their statements: YtdfjkollehhljaaTotals.lean).
  GIVEN WITH THE SEED: the statements are not yours to turn. If you find one false, say at which input.
  Laid BY PROGRAM, IN A SANDBOX (cutbox-rows.mjs): the forced cells as the released guide's own fill.sh prints them over the translation 4c3b6737d91f5328… (all of the seat's roots in one cut). By AI agents, Wed Nov 11 2026. No macro, syntax, notation, axiom, sorry.
-/
import Derived.Test.YtdfjkollehhljaaChecked
import GoSem.Claim
import GoSem.ClaimJoined
import GoSem.ClaimMapViews
import Derived.JoinedTies
import Derived.KernelRfl
namespace Go.Proofs.Ytdfjkollehhljaa
/- THE CELL 'sum', in the pinned program and in every row, IS THE sha256 OF THE DUMP (.gsa) THAT YtdfjkollehhljaaProg.lean LOADS. Nothing in Lean hashes anything: it is a label: what it is worth is what the hold of that sum in a sandbox is worth. -/
noncomputable def Try.pinned : Pinned := { name := "ytdfjkollehhljaa", sum := "4c3b6737d91f5328ef67fc876d1f7ef1e178b2d33082d6145a925de7d1c29134", checked := Try.checked }
namespace Rows
def none {H : Type} : Left H := { results := [], args := [] }

/-- 'plainsonglaw2.FloatsOrder': WHATEVER THE INPUT: true; the input reads as it did. -/
def floatsOrderSpec : ChangeSpec := { name := "floatsOrder", fn := fun _ => fun
  | [d1, d2] => { results := [.lit (.bool true)], args := [d1, d2] }
  | _ => none }
def floatsOrderRow : OpenClaim := { program := "ytdfjkollehhljaa", sum := "4c3b6737d91f5328ef67fc876d1f7ef1e178b2d33082d6145a925de7d1c29134", func := "plainsong/plainsonglaw2.FloatsOrder", spec := "floatsOrder", inPlace := ["math.Float64frombits", "math.archCeil", "math.archFloor", "math.Float64bits", "math.archTrunc", "math.RoundToEven", "math.sqrt"], apart := false }
def FloatsOrderSaid : Prop := floatsOrderRow.holds Try.pinned (OpenSpec.ofChange floatsOrderSpec)

/-- ITS FALSE NEIGHBOUR: 'it returns false'. Refute it at one input. -/
def floatsOrderWrong : ChangeSpec := { name := "floatsOrder", fn := fun _ => fun
  | [d1, d2] => { results := [.lit (.bool false)], args := [d1, d2] }
  | _ => none }
def FloatsOrderWrongFalsely : Prop := floatsOrderRow.holds Try.pinned (OpenSpec.ofChange floatsOrderWrong)

/-- 'plainsonglaw2.FloatsBits': WHATEVER THE INPUT: true; the input reads as it did. -/
def floatsBitsSpec : ChangeSpec := { name := "floatsBits", fn := fun _ => fun
  | [d1, d2] => { results := [.lit (.bool true)], args := [d1, d2] }
  | _ => none }
def floatsBitsRow : OpenClaim := { program := "ytdfjkollehhljaa", sum := "4c3b6737d91f5328ef67fc876d1f7ef1e178b2d33082d6145a925de7d1c29134", func := "plainsong/plainsonglaw2.FloatsBits", spec := "floatsBits", inPlace := ["math.Float64frombits", "math.archCeil", "math.archFloor", "math.Float64bits", "math.archTrunc", "math.RoundToEven", "math.sqrt"], apart := false }
def FloatsBitsSaid : Prop := floatsBitsRow.holds Try.pinned (OpenSpec.ofChange floatsBitsSpec)

/-- ITS FALSE NEIGHBOUR: 'it returns false'. Refute it at one input. -/
def floatsBitsWrong : ChangeSpec := { name := "floatsBits", fn := fun _ => fun
  | [d1, d2] => { results := [.lit (.bool false)], args := [d1, d2] }
  | _ => none }
def FloatsBitsWrongFalsely : Prop := floatsBitsRow.holds Try.pinned (OpenSpec.ofChange floatsBitsWrong)

/-- 'plainsonglaw2.FloatsRounds': WHATEVER THE INPUT: true; the input reads as it did. -/
def floatsRoundsSpec : ChangeSpec := { name := "floatsRounds", fn := fun _ => fun
  | [d] => { results := [.lit (.bool true)], args := [d] }
  | _ => none }
def floatsRoundsRow : OpenClaim := { program := "ytdfjkollehhljaa", sum := "4c3b6737d91f5328ef67fc876d1f7ef1e178b2d33082d6145a925de7d1c29134", func := "plainsong/plainsonglaw2.FloatsRounds", spec := "floatsRounds", inPlace := ["math.Float64frombits", "math.archCeil", "math.archFloor", "math.Float64bits", "math.archTrunc", "math.RoundToEven", "math.sqrt"], apart := false }
def FloatsRoundsSaid : Prop := floatsRoundsRow.holds Try.pinned (OpenSpec.ofChange floatsRoundsSpec)

/-- ITS FALSE NEIGHBOUR: 'it returns false'. Refute it at one input. -/
def floatsRoundsWrong : ChangeSpec := { name := "floatsRounds", fn := fun _ => fun
  | [d] => { results := [.lit (.bool false)], args := [d] }
  | _ => none }
def FloatsRoundsWrongFalsely : Prop := floatsRoundsRow.holds Try.pinned (OpenSpec.ofChange floatsRoundsWrong)

/-- 'plainsonglaw2.FloatsSums': WHATEVER THE INPUT: true; the input reads as it did. -/
def floatsSumsSpec : ChangeSpec := { name := "floatsSums", fn := fun _ => fun
  | [d1, d2] => { results := [.lit (.bool true)], args := [d1, d2] }
  | _ => none }
def floatsSumsRow : OpenClaim := { program := "ytdfjkollehhljaa", sum := "4c3b6737d91f5328ef67fc876d1f7ef1e178b2d33082d6145a925de7d1c29134", func := "plainsong/plainsonglaw2.FloatsSums", spec := "floatsSums", inPlace := ["math.Float64frombits", "math.archCeil", "math.archFloor", "math.Float64bits", "math.archTrunc", "math.RoundToEven", "math.sqrt"], apart := false }
def FloatsSumsSaid : Prop := floatsSumsRow.holds Try.pinned (OpenSpec.ofChange floatsSumsSpec)

/-- ITS FALSE NEIGHBOUR: 'it returns false'. Refute it at one input. -/
def floatsSumsWrong : ChangeSpec := { name := "floatsSums", fn := fun _ => fun
  | [d1, d2] => { results := [.lit (.bool false)], args := [d1, d2] }
  | _ => none }
def FloatsSumsWrongFalsely : Prop := floatsSumsRow.holds Try.pinned (OpenSpec.ofChange floatsSumsWrong)

/- THE SECOND FORM. 'bulk': how many values and letters a reading holds, each counted each time it is reached (what is shared counts as often as it is met; a slice's spare places count too). A statement '..UptoSaid' is the law's where the arguments, and the package variables that the reading takes, are together of bulk at most 1048576: NARROWER than '..Said'. Prove '..Said' where nothing that the law and all that it calls make is longer than what came in: it says more and counts as full. Else prove '..UptoSaid'. A law counts once. -/
mutual
def uptoBulk {H : Type} : DataW H → Nat
  | .lit (.string bytes) => bytes.length + 1
  | .lit _ => 1
  | .nil => 1
  | .ptr d => uptoBulk d + 1
  | .slice elems spare => uptoBulkAll elems + uptoBulkAll spare + 1
  | .agg parts => uptoBulkAll parts + 1
  | .iface _ d => uptoBulk d + 1
  | .map entries => uptoBulkEntries entries + 1
  | .held _ => 1
def uptoBulkAll {H : Type} : List (DataW H) → Nat
  | [] => 0
  | d :: r => uptoBulk d + uptoBulkAll r
def uptoBulkEntries {H : Type} : List (Lit × DataW H) → Nat
  | [] => 0
  | x :: r => uptoBulkEntry x + uptoBulkEntries r
def uptoBulkEntry {H : Type} : Lit × DataW H → Nat
  | (.string bytes, d) => bytes.length + uptoBulk d + 1
  | (_, d) => uptoBulk d + 1
 end
def uptoSmall : (H : Type) → List (DataW H) → Bool := fun _ ds => decide (uptoBulkAll ds ≤ 1048576)
def OpenSpec.upto (s : _root_.Go.ChangeSpec) : _root_.Go.OpenSpec := { _root_.Go.OpenSpec.ofChange s with cond := some uptoSmall }

/-- 'plainsonglaw2.FloatsOrder', WHERE WHAT IT READS IS OF BULK AT MOST 1048576: true; the input reads as it did. -/
def floatsOrderUptoRow : OpenClaim := { program := "ytdfjkollehhljaa", sum := "4c3b6737d91f5328ef67fc876d1f7ef1e178b2d33082d6145a925de7d1c29134", func := "plainsong/plainsonglaw2.FloatsOrder", spec := "floatsOrder", inPlace := ["math.Float64frombits", "math.archCeil", "math.archFloor", "math.Float64bits", "math.archTrunc", "math.RoundToEven", "math.sqrt"], apart := false, narrowed := true }
def FloatsOrderUptoSaid : Prop := floatsOrderUptoRow.holds Try.pinned (OpenSpec.upto floatsOrderSpec)

/-- 'plainsonglaw2.FloatsBits', WHERE WHAT IT READS IS OF BULK AT MOST 1048576: true; the input reads as it did. -/
def floatsBitsUptoRow : OpenClaim := { program := "ytdfjkollehhljaa", sum := "4c3b6737d91f5328ef67fc876d1f7ef1e178b2d33082d6145a925de7d1c29134", func := "plainsong/plainsonglaw2.FloatsBits", spec := "floatsBits", inPlace := ["math.Float64frombits", "math.archCeil", "math.archFloor", "math.Float64bits", "math.archTrunc", "math.RoundToEven", "math.sqrt"], apart := false, narrowed := true }
def FloatsBitsUptoSaid : Prop := floatsBitsUptoRow.holds Try.pinned (OpenSpec.upto floatsBitsSpec)

/-- 'plainsonglaw2.FloatsRounds', WHERE WHAT IT READS IS OF BULK AT MOST 1048576: true; the input reads as it did. -/
def floatsRoundsUptoRow : OpenClaim := { program := "ytdfjkollehhljaa", sum := "4c3b6737d91f5328ef67fc876d1f7ef1e178b2d33082d6145a925de7d1c29134", func := "plainsong/plainsonglaw2.FloatsRounds", spec := "floatsRounds", inPlace := ["math.Float64frombits", "math.archCeil", "math.archFloor", "math.Float64bits", "math.archTrunc", "math.RoundToEven", "math.sqrt"], apart := false, narrowed := true }
def FloatsRoundsUptoSaid : Prop := floatsRoundsUptoRow.holds Try.pinned (OpenSpec.upto floatsRoundsSpec)

/-- 'plainsonglaw2.FloatsSums', WHERE WHAT IT READS IS OF BULK AT MOST 1048576: true; the input reads as it did. -/
def floatsSumsUptoRow : OpenClaim := { program := "ytdfjkollehhljaa", sum := "4c3b6737d91f5328ef67fc876d1f7ef1e178b2d33082d6145a925de7d1c29134", func := "plainsong/plainsonglaw2.FloatsSums", spec := "floatsSums", inPlace := ["math.Float64frombits", "math.archCeil", "math.archFloor", "math.Float64bits", "math.archTrunc", "math.RoundToEven", "math.sqrt"], apart := false, narrowed := true }
def FloatsSumsUptoSaid : Prop := floatsSumsUptoRow.holds Try.pinned (OpenSpec.upto floatsSumsSpec)

end Rows
end Go.Proofs.Ytdfjkollehhljaa
