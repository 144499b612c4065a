/-
  No cell of these rows narrows 'for every input' (looked for: loops, veiled, ifaces, maps, wideKeys, modest, calm, conditions, laid).
  DERIVED. THE GIVEN ROWS OF THIS SEAT. 6 by the template 'for every input the law returns true; each argument reads behind the call as it read before'; 0 by the template 'total and deterministic' (their statements: YtkdbnmohpanpfaaTotals.lean).
  GIVEN WITH THE SEED: the statements are not yours to turn. If you find one false, say at which input.
  Laid BY PROGRAM, IN A SANDBOX (cutbox-rows.mjs): the forced cells as the released guide's own fill.sh prints them over the translation dc511172d78402e3… (all of the seat's roots in one cut). By AI agents, Wed Nov 11 2026. No macro, syntax, notation, axiom, sorry.
-/
import Derived.Test.YtkdbnmohpanpfaaChecked
import GoSem.Claim
import GoSem.ClaimJoined
import GoSem.ClaimMapViews
import Derived.JoinedTies
import Derived.KernelRfl
namespace Go.Proofs.Ytkdbnmohpanpfaa
/- THE CELL 'sum', in the pinned program and in every row, IS THE sha256 OF THE DUMP (.gsa) THAT YtkdbnmohpanpfaaProg.lean LOADS. Nothing in Lean hashes anything: it is a label: what it is worth is what the hold of that sum in a sandbox is worth. -/
noncomputable def Try.pinned : Pinned := { name := "ytkdbnmohpanpfaa", sum := "dc511172d78402e3757ae3861e40848235deb7f7e5d74d7bdf2024ff11504682", checked := Try.checked }
namespace Rows
def none {H : Type} : Left H := { results := [], args := [] }

/-- 'limnerlaw08.CoverParts': WHATEVER THE INPUT: true; the input reads as it did. -/
def coverPartsSpec : ChangeSpec := { name := "coverParts", fn := fun _ => fun
  | [d] => { results := [.lit (.bool true)], args := [d] }
  | _ => none }
def coverPartsRow : OpenClaim := { program := "ytkdbnmohpanpfaa", sum := "dc511172d78402e3757ae3861e40848235deb7f7e5d74d7bdf2024ff11504682", func := "limner/limnerlaw08.CoverParts", spec := "coverParts", inPlace := ["math/bits.Add64", "math/bits.Sub64"], unfollowed := true, recurses := true, named := ["math/bits.divideError", "math/bits.overflowError"], apart := false }
def CoverPartsSaid : Prop := coverPartsRow.holds Try.pinned (OpenSpec.ofChange coverPartsSpec)

/-- ITS FALSE NEIGHBOUR: 'it returns false'. Refute it at one input. -/
def coverPartsWrong : ChangeSpec := { name := "coverParts", fn := fun _ => fun
  | [d] => { results := [.lit (.bool false)], args := [d] }
  | _ => none }
def CoverPartsWrongFalsely : Prop := coverPartsRow.holds Try.pinned (OpenSpec.ofChange coverPartsWrong)

/-- 'limnerlaw08.CoverMoves': WHATEVER THE INPUT: true; the input reads as it did. -/
def coverMovesSpec : ChangeSpec := { name := "coverMoves", fn := fun _ => fun
  | [d1, d2, d3] => { results := [.lit (.bool true)], args := [d1, d2, d3] }
  | _ => none }
def coverMovesRow : OpenClaim := { program := "ytkdbnmohpanpfaa", sum := "dc511172d78402e3757ae3861e40848235deb7f7e5d74d7bdf2024ff11504682", func := "limner/limnerlaw08.CoverMoves", spec := "coverMoves", inPlace := ["math/bits.Add64", "math/bits.Sub64"], unfollowed := true, recurses := true, named := ["math/bits.divideError", "math/bits.overflowError"], apart := false }
def CoverMovesSaid : Prop := coverMovesRow.holds Try.pinned (OpenSpec.ofChange coverMovesSpec)

/-- ITS FALSE NEIGHBOUR: 'it returns false'. Refute it at one input. -/
def coverMovesWrong : ChangeSpec := { name := "coverMoves", fn := fun _ => fun
  | [d1, d2, d3] => { results := [.lit (.bool false)], args := [d1, d2, d3] }
  | _ => none }
def CoverMovesWrongFalsely : Prop := coverMovesRow.holds Try.pinned (OpenSpec.ofChange coverMovesWrong)

/-- 'limnerlaw08.CoverSums': WHATEVER THE INPUT: true; the input reads as it did. -/
def coverSumsSpec : ChangeSpec := { name := "coverSums", fn := fun _ => fun
  | [d1, d2] => { results := [.lit (.bool true)], args := [d1, d2] }
  | _ => none }
def coverSumsRow : OpenClaim := { program := "ytkdbnmohpanpfaa", sum := "dc511172d78402e3757ae3861e40848235deb7f7e5d74d7bdf2024ff11504682", func := "limner/limnerlaw08.CoverSums", spec := "coverSums", inPlace := ["math/bits.Add64", "math/bits.Sub64"], unfollowed := true, recurses := true, named := ["math/bits.divideError", "math/bits.overflowError"], apart := false }
def CoverSumsSaid : Prop := coverSumsRow.holds Try.pinned (OpenSpec.ofChange coverSumsSpec)

/-- ITS FALSE NEIGHBOUR: 'it returns false'. Refute it at one input. -/
def coverSumsWrong : ChangeSpec := { name := "coverSums", fn := fun _ => fun
  | [d1, d2] => { results := [.lit (.bool false)], args := [d1, d2] }
  | _ => none }
def CoverSumsWrongFalsely : Prop := coverSumsRow.holds Try.pinned (OpenSpec.ofChange coverSumsWrong)

/-- 'limnerlaw08.CoverMasks': WHATEVER THE INPUT: true; the input reads as it did. -/
def coverMasksSpec : ChangeSpec := { name := "coverMasks", fn := fun _ => fun
  | [d1, d2, d3] => { results := [.lit (.bool true)], args := [d1, d2, d3] }
  | _ => none }
def coverMasksRow : OpenClaim := { program := "ytkdbnmohpanpfaa", sum := "dc511172d78402e3757ae3861e40848235deb7f7e5d74d7bdf2024ff11504682", func := "limner/limnerlaw08.CoverMasks", spec := "coverMasks", inPlace := ["math/bits.Add64", "math/bits.Sub64"], unfollowed := true, recurses := true, named := ["math/bits.divideError", "math/bits.overflowError"], apart := false }
def CoverMasksSaid : Prop := coverMasksRow.holds Try.pinned (OpenSpec.ofChange coverMasksSpec)

/-- ITS FALSE NEIGHBOUR: 'it returns false'. Refute it at one input. -/
def coverMasksWrong : ChangeSpec := { name := "coverMasks", fn := fun _ => fun
  | [d1, d2, d3] => { results := [.lit (.bool false)], args := [d1, d2, d3] }
  | _ => none }
def CoverMasksWrongFalsely : Prop := coverMasksRow.holds Try.pinned (OpenSpec.ofChange coverMasksWrong)

/-- 'limnerlaw08.CoverBounds': WHATEVER THE INPUT: true; the input reads as it did. -/
def coverBoundsSpec : ChangeSpec := { name := "coverBounds", fn := fun _ => fun
  | [d] => { results := [.lit (.bool true)], args := [d] }
  | _ => none }
def coverBoundsRow : OpenClaim := { program := "ytkdbnmohpanpfaa", sum := "dc511172d78402e3757ae3861e40848235deb7f7e5d74d7bdf2024ff11504682", func := "limner/limnerlaw08.CoverBounds", spec := "coverBounds", inPlace := ["math/bits.Add64", "math/bits.Sub64"], unfollowed := true, recurses := true, named := ["math/bits.divideError", "math/bits.overflowError"], apart := false }
def CoverBoundsSaid : Prop := coverBoundsRow.holds Try.pinned (OpenSpec.ofChange coverBoundsSpec)

/-- ITS FALSE NEIGHBOUR: 'it returns false'. Refute it at one input. -/
def coverBoundsWrong : ChangeSpec := { name := "coverBounds", fn := fun _ => fun
  | [d] => { results := [.lit (.bool false)], args := [d] }
  | _ => none }
def CoverBoundsWrongFalsely : Prop := coverBoundsRow.holds Try.pinned (OpenSpec.ofChange coverBoundsWrong)

/-- 'limnerlaw08.CoverInside': WHATEVER THE INPUT: true; the input reads as it did. -/
def coverInsideSpec : ChangeSpec := { name := "coverInside", fn := fun _ => fun
  | [d1, d2, d3] => { results := [.lit (.bool true)], args := [d1, d2, d3] }
  | _ => none }
def coverInsideRow : OpenClaim := { program := "ytkdbnmohpanpfaa", sum := "dc511172d78402e3757ae3861e40848235deb7f7e5d74d7bdf2024ff11504682", func := "limner/limnerlaw08.CoverInside", spec := "coverInside", inPlace := ["math/bits.Add64", "math/bits.Sub64"], unfollowed := true, recurses := true, named := ["math/bits.divideError", "math/bits.overflowError"], apart := false }
def CoverInsideSaid : Prop := coverInsideRow.holds Try.pinned (OpenSpec.ofChange coverInsideSpec)

/-- ITS FALSE NEIGHBOUR: 'it returns false'. Refute it at one input. -/
def coverInsideWrong : ChangeSpec := { name := "coverInside", fn := fun _ => fun
  | [d1, d2, d3] => { results := [.lit (.bool false)], args := [d1, d2, d3] }
  | _ => none }
def CoverInsideWrongFalsely : Prop := coverInsideRow.holds Try.pinned (OpenSpec.ofChange coverInsideWrong)

/- THE SECOND FORM. 'bulk': how many values and letters a reading holds, each counted each time it is reached (what is shared counts as often as it is met; a slice's spare places count too). A statement '..UptoSaid' is the law's where the arguments, and the package variables that the reading takes, are together of bulk at most 1048576: NARROWER than '..Said'. Prove '..Said' where nothing that the law and all that it calls make is longer than what came in: it says more and counts as full. Else prove '..UptoSaid'. A law counts once. -/
mutual
def uptoBulk {H : Type} : DataW H → Nat
  | .lit (.string bytes) => bytes.length + 1
  | .lit _ => 1
  | .nil => 1
  | .ptr d => uptoBulk d + 1
  | .slice elems spare => uptoBulkAll elems + uptoBulkAll spare + 1
  | .agg parts => uptoBulkAll parts + 1
  | .iface _ d => uptoBulk d + 1
  | .map entries => uptoBulkEntries entries + 1
  | .held _ => 1
def uptoBulkAll {H : Type} : List (DataW H) → Nat
  | [] => 0
  | d :: r => uptoBulk d + uptoBulkAll r
def uptoBulkEntries {H : Type} : List (Lit × DataW H) → Nat
  | [] => 0
  | x :: r => uptoBulkEntry x + uptoBulkEntries r
def uptoBulkEntry {H : Type} : Lit × DataW H → Nat
  | (.string bytes, d) => bytes.length + uptoBulk d + 1
  | (_, d) => uptoBulk d + 1
 end
def uptoSmall : (H : Type) → List (DataW H) → Bool := fun _ ds => decide (uptoBulkAll ds ≤ 1048576)
def OpenSpec.upto (s : _root_.Go.ChangeSpec) : _root_.Go.OpenSpec := { _root_.Go.OpenSpec.ofChange s with cond := some uptoSmall }

/-- 'limnerlaw08.CoverParts', WHERE WHAT IT READS IS OF BULK AT MOST 1048576: true; the input reads as it did. -/
def coverPartsUptoRow : OpenClaim := { program := "ytkdbnmohpanpfaa", sum := "dc511172d78402e3757ae3861e40848235deb7f7e5d74d7bdf2024ff11504682", func := "limner/limnerlaw08.CoverParts", spec := "coverParts", inPlace := ["math/bits.Add64", "math/bits.Sub64"], unfollowed := true, recurses := true, named := ["math/bits.divideError", "math/bits.overflowError"], apart := false, narrowed := true }
def CoverPartsUptoSaid : Prop := coverPartsUptoRow.holds Try.pinned (OpenSpec.upto coverPartsSpec)

/-- 'limnerlaw08.CoverMoves', WHERE WHAT IT READS IS OF BULK AT MOST 1048576: true; the input reads as it did. -/
def coverMovesUptoRow : OpenClaim := { program := "ytkdbnmohpanpfaa", sum := "dc511172d78402e3757ae3861e40848235deb7f7e5d74d7bdf2024ff11504682", func := "limner/limnerlaw08.CoverMoves", spec := "coverMoves", inPlace := ["math/bits.Add64", "math/bits.Sub64"], unfollowed := true, recurses := true, named := ["math/bits.divideError", "math/bits.overflowError"], apart := false, narrowed := true }
def CoverMovesUptoSaid : Prop := coverMovesUptoRow.holds Try.pinned (OpenSpec.upto coverMovesSpec)

/-- 'limnerlaw08.CoverSums', WHERE WHAT IT READS IS OF BULK AT MOST 1048576: true; the input reads as it did. -/
def coverSumsUptoRow : OpenClaim := { program := "ytkdbnmohpanpfaa", sum := "dc511172d78402e3757ae3861e40848235deb7f7e5d74d7bdf2024ff11504682", func := "limner/limnerlaw08.CoverSums", spec := "coverSums", inPlace := ["math/bits.Add64", "math/bits.Sub64"], unfollowed := true, recurses := true, named := ["math/bits.divideError", "math/bits.overflowError"], apart := false, narrowed := true }
def CoverSumsUptoSaid : Prop := coverSumsUptoRow.holds Try.pinned (OpenSpec.upto coverSumsSpec)

/-- 'limnerlaw08.CoverMasks', WHERE WHAT IT READS IS OF BULK AT MOST 1048576: true; the input reads as it did. -/
def coverMasksUptoRow : OpenClaim := { program := "ytkdbnmohpanpfaa", sum := "dc511172d78402e3757ae3861e40848235deb7f7e5d74d7bdf2024ff11504682", func := "limner/limnerlaw08.CoverMasks", spec := "coverMasks", inPlace := ["math/bits.Add64", "math/bits.Sub64"], unfollowed := true, recurses := true, named := ["math/bits.divideError", "math/bits.overflowError"], apart := false, narrowed := true }
def CoverMasksUptoSaid : Prop := coverMasksUptoRow.holds Try.pinned (OpenSpec.upto coverMasksSpec)

/-- 'limnerlaw08.CoverBounds', WHERE WHAT IT READS IS OF BULK AT MOST 1048576: true; the input reads as it did. -/
def coverBoundsUptoRow : OpenClaim := { program := "ytkdbnmohpanpfaa", sum := "dc511172d78402e3757ae3861e40848235deb7f7e5d74d7bdf2024ff11504682", func := "limner/limnerlaw08.CoverBounds", spec := "coverBounds", inPlace := ["math/bits.Add64", "math/bits.Sub64"], unfollowed := true, recurses := true, named := ["math/bits.divideError", "math/bits.overflowError"], apart := false, narrowed := true }
def CoverBoundsUptoSaid : Prop := coverBoundsUptoRow.holds Try.pinned (OpenSpec.upto coverBoundsSpec)

/-- 'limnerlaw08.CoverInside', WHERE WHAT IT READS IS OF BULK AT MOST 1048576: true; the input reads as it did. -/
def coverInsideUptoRow : OpenClaim := { program := "ytkdbnmohpanpfaa", sum := "dc511172d78402e3757ae3861e40848235deb7f7e5d74d7bdf2024ff11504682", func := "limner/limnerlaw08.CoverInside", spec := "coverInside", inPlace := ["math/bits.Add64", "math/bits.Sub64"], unfollowed := true, recurses := true, named := ["math/bits.divideError", "math/bits.overflowError"], apart := false, narrowed := true }
def CoverInsideUptoSaid : Prop := coverInsideUptoRow.holds Try.pinned (OpenSpec.upto coverInsideSpec)

end Rows
end Go.Proofs.Ytkdbnmohpanpfaa
