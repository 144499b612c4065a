/-
  No cell of these rows narrows 'for every input' (looked for: loops, veiled, ifaces, maps, wideKeys, modest, calm, conditions, laid).
  DERIVED. THE GIVEN ROWS OF THIS SEAT. 6 by the template 'for every input the law returns true; each argument reads behind the call as it read before'; 0 by the template 'total and deterministic' (their statements: YtoakdmjpbachdaaTotals.lean).
  GIVEN WITH THE SEED: the statements are not yours to turn. If you find one false, say at which input.
  Laid BY PROGRAM, IN A SANDBOX (cutbox-rows.mjs): the forced cells as the released guide's own fill.sh prints them over the translation b1afb5e38da78373… (all of the seat's roots in one cut). By AI agents, Wed Nov 11 2026. No macro, syntax, notation, axiom, sorry.
-/
import Derived.Test.YtoakdmjpbachdaaChecked
import GoSem.Claim
import GoSem.ClaimJoined
import GoSem.ClaimMapViews
import Derived.JoinedTies
import Derived.KernelRfl
namespace Go.Proofs.Ytoakdmjpbachdaa
/- THE CELL 'sum', in the pinned program and in every row, IS THE sha256 OF THE DUMP (.gsa) THAT YtoakdmjpbachdaaProg.lean LOADS. Nothing in Lean hashes anything: it is a label: what it is worth is what the hold of that sum in a sandbox is worth. -/
noncomputable def Try.pinned : Pinned := { name := "ytoakdmjpbachdaa", sum := "b1afb5e38da7837334aa5a8b6172835a15afa151b887c69794cd3bcf81881c73", checked := Try.checked }
namespace Rows
def none {H : Type} : Left H := { results := [], args := [] }

/-- 'limnerlaw09.DashChecks': WHATEVER THE INPUT: true; the input reads as it did. -/
def dashChecksSpec : ChangeSpec := { name := "dashChecks", fn := fun _ => fun
  | [d] => { results := [.lit (.bool true)], args := [d] }
  | _ => none }
def dashChecksRow : OpenClaim := { program := "ytoakdmjpbachdaa", sum := "b1afb5e38da7837334aa5a8b6172835a15afa151b887c69794cd3bcf81881c73", func := "limner/limnerlaw09.DashChecks", spec := "dashChecks", inPlace := ["math/bits.Add64", "math/bits.Sub64"], unfollowed := true, recurses := true, named := ["math/bits.divideError", "math/bits.overflowError"], apart := false }
def DashChecksSaid : Prop := dashChecksRow.holds Try.pinned (OpenSpec.ofChange dashChecksSpec)

/-- ITS FALSE NEIGHBOUR: 'it returns false'. Refute it at one input. -/
def dashChecksWrong : ChangeSpec := { name := "dashChecks", fn := fun _ => fun
  | [d] => { results := [.lit (.bool false)], args := [d] }
  | _ => none }
def DashChecksWrongFalsely : Prop := dashChecksRow.holds Try.pinned (OpenSpec.ofChange dashChecksWrong)

/-- 'limnerlaw09.DashWays': WHATEVER THE INPUT: true; the input reads as it did. -/
def dashWaysSpec : ChangeSpec := { name := "dashWays", fn := fun _ => fun
  | [d] => { results := [.lit (.bool true)], args := [d] }
  | _ => none }
def dashWaysRow : OpenClaim := { program := "ytoakdmjpbachdaa", sum := "b1afb5e38da7837334aa5a8b6172835a15afa151b887c69794cd3bcf81881c73", func := "limner/limnerlaw09.DashWays", spec := "dashWays", inPlace := ["math/bits.Add64", "math/bits.Sub64"], unfollowed := true, recurses := true, named := ["math/bits.divideError", "math/bits.overflowError"], apart := false }
def DashWaysSaid : Prop := dashWaysRow.holds Try.pinned (OpenSpec.ofChange dashWaysSpec)

/-- ITS FALSE NEIGHBOUR: 'it returns false'. Refute it at one input. -/
def dashWaysWrong : ChangeSpec := { name := "dashWays", fn := fun _ => fun
  | [d] => { results := [.lit (.bool false)], args := [d] }
  | _ => none }
def DashWaysWrongFalsely : Prop := dashWaysRow.holds Try.pinned (OpenSpec.ofChange dashWaysWrong)

/-- 'limnerlaw09.DashPieces': WHATEVER THE INPUT: true; the input reads as it did. -/
def dashPiecesSpec : ChangeSpec := { name := "dashPieces", fn := fun _ => fun
  | [d1, d2] => { results := [.lit (.bool true)], args := [d1, d2] }
  | _ => none }
def dashPiecesRow : OpenClaim := { program := "ytoakdmjpbachdaa", sum := "b1afb5e38da7837334aa5a8b6172835a15afa151b887c69794cd3bcf81881c73", func := "limner/limnerlaw09.DashPieces", spec := "dashPieces", inPlace := ["math/bits.Add64", "math/bits.Sub64"], unfollowed := true, recurses := true, named := ["math/bits.divideError", "math/bits.overflowError"], apart := false }
def DashPiecesSaid : Prop := dashPiecesRow.holds Try.pinned (OpenSpec.ofChange dashPiecesSpec)

/-- ITS FALSE NEIGHBOUR: 'it returns false'. Refute it at one input. -/
def dashPiecesWrong : ChangeSpec := { name := "dashPieces", fn := fun _ => fun
  | [d1, d2] => { results := [.lit (.bool false)], args := [d1, d2] }
  | _ => none }
def DashPiecesWrongFalsely : Prop := dashPiecesRow.holds Try.pinned (OpenSpec.ofChange dashPiecesWrong)

/-- 'limnerlaw09.DashTurns': WHATEVER THE INPUT: true; the input reads as it did. -/
def dashTurnsSpec : ChangeSpec := { name := "dashTurns", fn := fun _ => fun
  | [d1, d2] => { results := [.lit (.bool true)], args := [d1, d2] }
  | _ => none }
def dashTurnsRow : OpenClaim := { program := "ytoakdmjpbachdaa", sum := "b1afb5e38da7837334aa5a8b6172835a15afa151b887c69794cd3bcf81881c73", func := "limner/limnerlaw09.DashTurns", spec := "dashTurns", inPlace := ["math/bits.Add64", "math/bits.Sub64"], unfollowed := true, recurses := true, named := ["math/bits.divideError", "math/bits.overflowError"], apart := false }
def DashTurnsSaid : Prop := dashTurnsRow.holds Try.pinned (OpenSpec.ofChange dashTurnsSpec)

/-- ITS FALSE NEIGHBOUR: 'it returns false'. Refute it at one input. -/
def dashTurnsWrong : ChangeSpec := { name := "dashTurns", fn := fun _ => fun
  | [d1, d2] => { results := [.lit (.bool false)], args := [d1, d2] }
  | _ => none }
def DashTurnsWrongFalsely : Prop := dashTurnsRow.holds Try.pinned (OpenSpec.ofChange dashTurnsWrong)

/-- 'limnerlaw09.DashPlaces': WHATEVER THE INPUT: true; the input reads as it did. -/
def dashPlacesSpec : ChangeSpec := { name := "dashPlaces", fn := fun _ => fun
  | [d1, d2, d3] => { results := [.lit (.bool true)], args := [d1, d2, d3] }
  | _ => none }
def dashPlacesRow : OpenClaim := { program := "ytoakdmjpbachdaa", sum := "b1afb5e38da7837334aa5a8b6172835a15afa151b887c69794cd3bcf81881c73", func := "limner/limnerlaw09.DashPlaces", spec := "dashPlaces", inPlace := ["math/bits.Add64", "math/bits.Sub64"], unfollowed := true, recurses := true, named := ["math/bits.divideError", "math/bits.overflowError"], apart := false }
def DashPlacesSaid : Prop := dashPlacesRow.holds Try.pinned (OpenSpec.ofChange dashPlacesSpec)

/-- ITS FALSE NEIGHBOUR: 'it returns false'. Refute it at one input. -/
def dashPlacesWrong : ChangeSpec := { name := "dashPlaces", fn := fun _ => fun
  | [d1, d2, d3] => { results := [.lit (.bool false)], args := [d1, d2, d3] }
  | _ => none }
def DashPlacesWrongFalsely : Prop := dashPlacesRow.holds Try.pinned (OpenSpec.ofChange dashPlacesWrong)

/-- 'limnerlaw09.DashBounds': WHATEVER THE INPUT: true; the input reads as it did. -/
def dashBoundsSpec : ChangeSpec := { name := "dashBounds", fn := fun _ => fun
  | [d1, d2] => { results := [.lit (.bool true)], args := [d1, d2] }
  | _ => none }
def dashBoundsRow : OpenClaim := { program := "ytoakdmjpbachdaa", sum := "b1afb5e38da7837334aa5a8b6172835a15afa151b887c69794cd3bcf81881c73", func := "limner/limnerlaw09.DashBounds", spec := "dashBounds", inPlace := ["math/bits.Add64", "math/bits.Sub64"], unfollowed := true, recurses := true, named := ["math/bits.divideError", "math/bits.overflowError"], apart := false }
def DashBoundsSaid : Prop := dashBoundsRow.holds Try.pinned (OpenSpec.ofChange dashBoundsSpec)

/-- ITS FALSE NEIGHBOUR: 'it returns false'. Refute it at one input. -/
def dashBoundsWrong : ChangeSpec := { name := "dashBounds", fn := fun _ => fun
  | [d1, d2] => { results := [.lit (.bool false)], args := [d1, d2] }
  | _ => none }
def DashBoundsWrongFalsely : Prop := dashBoundsRow.holds Try.pinned (OpenSpec.ofChange dashBoundsWrong)

/- THE SECOND FORM. 'bulk': how many values and letters a reading holds, each counted each time it is reached (what is shared counts as often as it is met; a slice's spare places count too). A statement '..UptoSaid' is the law's where the arguments, and the package variables that the reading takes, are together of bulk at most 1048576: NARROWER than '..Said'. Prove '..Said' where nothing that the law and all that it calls make is longer than what came in: it says more and counts as full. Else prove '..UptoSaid'. A law counts once. -/
mutual
def uptoBulk {H : Type} : DataW H → Nat
  | .lit (.string bytes) => bytes.length + 1
  | .lit _ => 1
  | .nil => 1
  | .ptr d => uptoBulk d + 1
  | .slice elems spare => uptoBulkAll elems + uptoBulkAll spare + 1
  | .agg parts => uptoBulkAll parts + 1
  | .iface _ d => uptoBulk d + 1
  | .map entries => uptoBulkEntries entries + 1
  | .held _ => 1
def uptoBulkAll {H : Type} : List (DataW H) → Nat
  | [] => 0
  | d :: r => uptoBulk d + uptoBulkAll r
def uptoBulkEntries {H : Type} : List (Lit × DataW H) → Nat
  | [] => 0
  | x :: r => uptoBulkEntry x + uptoBulkEntries r
def uptoBulkEntry {H : Type} : Lit × DataW H → Nat
  | (.string bytes, d) => bytes.length + uptoBulk d + 1
  | (_, d) => uptoBulk d + 1
 end
def uptoSmall : (H : Type) → List (DataW H) → Bool := fun _ ds => decide (uptoBulkAll ds ≤ 1048576)
def OpenSpec.upto (s : _root_.Go.ChangeSpec) : _root_.Go.OpenSpec := { _root_.Go.OpenSpec.ofChange s with cond := some uptoSmall }

/-- 'limnerlaw09.DashChecks', WHERE WHAT IT READS IS OF BULK AT MOST 1048576: true; the input reads as it did. -/
def dashChecksUptoRow : OpenClaim := { program := "ytoakdmjpbachdaa", sum := "b1afb5e38da7837334aa5a8b6172835a15afa151b887c69794cd3bcf81881c73", func := "limner/limnerlaw09.DashChecks", spec := "dashChecks", inPlace := ["math/bits.Add64", "math/bits.Sub64"], unfollowed := true, recurses := true, named := ["math/bits.divideError", "math/bits.overflowError"], apart := false, narrowed := true }
def DashChecksUptoSaid : Prop := dashChecksUptoRow.holds Try.pinned (OpenSpec.upto dashChecksSpec)

/-- 'limnerlaw09.DashWays', WHERE WHAT IT READS IS OF BULK AT MOST 1048576: true; the input reads as it did. -/
def dashWaysUptoRow : OpenClaim := { program := "ytoakdmjpbachdaa", sum := "b1afb5e38da7837334aa5a8b6172835a15afa151b887c69794cd3bcf81881c73", func := "limner/limnerlaw09.DashWays", spec := "dashWays", inPlace := ["math/bits.Add64", "math/bits.Sub64"], unfollowed := true, recurses := true, named := ["math/bits.divideError", "math/bits.overflowError"], apart := false, narrowed := true }
def DashWaysUptoSaid : Prop := dashWaysUptoRow.holds Try.pinned (OpenSpec.upto dashWaysSpec)

/-- 'limnerlaw09.DashPieces', WHERE WHAT IT READS IS OF BULK AT MOST 1048576: true; the input reads as it did. -/
def dashPiecesUptoRow : OpenClaim := { program := "ytoakdmjpbachdaa", sum := "b1afb5e38da7837334aa5a8b6172835a15afa151b887c69794cd3bcf81881c73", func := "limner/limnerlaw09.DashPieces", spec := "dashPieces", inPlace := ["math/bits.Add64", "math/bits.Sub64"], unfollowed := true, recurses := true, named := ["math/bits.divideError", "math/bits.overflowError"], apart := false, narrowed := true }
def DashPiecesUptoSaid : Prop := dashPiecesUptoRow.holds Try.pinned (OpenSpec.upto dashPiecesSpec)

/-- 'limnerlaw09.DashTurns', WHERE WHAT IT READS IS OF BULK AT MOST 1048576: true; the input reads as it did. -/
def dashTurnsUptoRow : OpenClaim := { program := "ytoakdmjpbachdaa", sum := "b1afb5e38da7837334aa5a8b6172835a15afa151b887c69794cd3bcf81881c73", func := "limner/limnerlaw09.DashTurns", spec := "dashTurns", inPlace := ["math/bits.Add64", "math/bits.Sub64"], unfollowed := true, recurses := true, named := ["math/bits.divideError", "math/bits.overflowError"], apart := false, narrowed := true }
def DashTurnsUptoSaid : Prop := dashTurnsUptoRow.holds Try.pinned (OpenSpec.upto dashTurnsSpec)

/-- 'limnerlaw09.DashPlaces', WHERE WHAT IT READS IS OF BULK AT MOST 1048576: true; the input reads as it did. -/
def dashPlacesUptoRow : OpenClaim := { program := "ytoakdmjpbachdaa", sum := "b1afb5e38da7837334aa5a8b6172835a15afa151b887c69794cd3bcf81881c73", func := "limner/limnerlaw09.DashPlaces", spec := "dashPlaces", inPlace := ["math/bits.Add64", "math/bits.Sub64"], unfollowed := true, recurses := true, named := ["math/bits.divideError", "math/bits.overflowError"], apart := false, narrowed := true }
def DashPlacesUptoSaid : Prop := dashPlacesUptoRow.holds Try.pinned (OpenSpec.upto dashPlacesSpec)

/-- 'limnerlaw09.DashBounds', WHERE WHAT IT READS IS OF BULK AT MOST 1048576: true; the input reads as it did. -/
def dashBoundsUptoRow : OpenClaim := { program := "ytoakdmjpbachdaa", sum := "b1afb5e38da7837334aa5a8b6172835a15afa151b887c69794cd3bcf81881c73", func := "limner/limnerlaw09.DashBounds", spec := "dashBounds", inPlace := ["math/bits.Add64", "math/bits.Sub64"], unfollowed := true, recurses := true, named := ["math/bits.divideError", "math/bits.overflowError"], apart := false, narrowed := true }
def DashBoundsUptoSaid : Prop := dashBoundsUptoRow.holds Try.pinned (OpenSpec.upto dashBoundsSpec)

end Rows
end Go.Proofs.Ytoakdmjpbachdaa
