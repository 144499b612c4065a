/-
  No cell of these rows narrows 'for every input' (looked for: loops, veiled, ifaces, maps, wideKeys, modest, calm, conditions, laid).
  DERIVED. THE GIVEN ROWS OF THIS SEAT. 6 by the template 'for every input the law returns true; each argument reads behind the call as it read before'; 0 by the template 'total and deterministic' (their statements: YtfhjndnempmcaaaTotals.lean).
  GIVEN WITH THE SEED: the statements are not yours to turn. If you find one false, say at which input.
  Laid BY PROGRAM, IN A SANDBOX (cutbox-rows.mjs): the forced cells as the released guide's own fill.sh prints them over the translation a7f1dccfa10d733e… (all of the seat's roots in one cut). By AI agents, Wed Nov 11 2026. No macro, syntax, notation, axiom, sorry.
-/
import Derived.Test.YtfhjndnempmcaaaChecked
import GoSem.Claim
import GoSem.ClaimJoined
import GoSem.ClaimMapViews
import Derived.JoinedTies
import Derived.KernelRfl
namespace Go.Proofs.Ytfhjndnempmcaaa
/- THE CELL 'sum', in the pinned program and in every row, IS THE sha256 OF THE DUMP (.gsa) THAT YtfhjndnempmcaaaProg.lean LOADS. Nothing in Lean hashes anything: it is a label: what it is worth is what the hold of that sum in a sandbox is worth. -/
noncomputable def Try.pinned : Pinned := { name := "ytfhjndnempmcaaa", sum := "a7f1dccfa10d733e65347739f606576a34d71a084e2380b1002ed5ef3468608e", checked := Try.checked }
namespace Rows
def none {H : Type} : Left H := { results := [], args := [] }

/-- 'limnerlaw03.GeomWinds': WHATEVER THE INPUT: true; the input reads as it did. -/
def geomWindsSpec : ChangeSpec := { name := "geomWinds", fn := fun _ => fun
  | [d1, d2] => { results := [.lit (.bool true)], args := [d1, d2] }
  | _ => none }
def geomWindsRow : OpenClaim := { program := "ytfhjndnempmcaaa", sum := "a7f1dccfa10d733e65347739f606576a34d71a084e2380b1002ed5ef3468608e", func := "limner/limnerlaw03.GeomWinds", spec := "geomWinds", apart := false }
def GeomWindsSaid : Prop := geomWindsRow.holds Try.pinned (OpenSpec.ofChange geomWindsSpec)

/-- ITS FALSE NEIGHBOUR: 'it returns false'. Refute it at one input. -/
def geomWindsWrong : ChangeSpec := { name := "geomWinds", fn := fun _ => fun
  | [d1, d2] => { results := [.lit (.bool false)], args := [d1, d2] }
  | _ => none }
def GeomWindsWrongFalsely : Prop := geomWindsRow.holds Try.pinned (OpenSpec.ofChange geomWindsWrong)

/-- 'limnerlaw03.GeomTurns': WHATEVER THE INPUT: true; the input reads as it did. -/
def geomTurnsSpec : ChangeSpec := { name := "geomTurns", fn := fun _ => fun
  | [d1, d2, d3] => { results := [.lit (.bool true)], args := [d1, d2, d3] }
  | _ => none }
def geomTurnsRow : OpenClaim := { program := "ytfhjndnempmcaaa", sum := "a7f1dccfa10d733e65347739f606576a34d71a084e2380b1002ed5ef3468608e", func := "limner/limnerlaw03.GeomTurns", spec := "geomTurns", apart := false }
def GeomTurnsSaid : Prop := geomTurnsRow.holds Try.pinned (OpenSpec.ofChange geomTurnsSpec)

/-- ITS FALSE NEIGHBOUR: 'it returns false'. Refute it at one input. -/
def geomTurnsWrong : ChangeSpec := { name := "geomTurns", fn := fun _ => fun
  | [d1, d2, d3] => { results := [.lit (.bool false)], args := [d1, d2, d3] }
  | _ => none }
def GeomTurnsWrongFalsely : Prop := geomTurnsRow.holds Try.pinned (OpenSpec.ofChange geomTurnsWrong)

/-- 'limnerlaw03.GeomBounds': WHATEVER THE INPUT: true; the input reads as it did. -/
def geomBoundsSpec : ChangeSpec := { name := "geomBounds", fn := fun _ => fun
  | [d] => { results := [.lit (.bool true)], args := [d] }
  | _ => none }
def geomBoundsRow : OpenClaim := { program := "ytfhjndnempmcaaa", sum := "a7f1dccfa10d733e65347739f606576a34d71a084e2380b1002ed5ef3468608e", func := "limner/limnerlaw03.GeomBounds", spec := "geomBounds", apart := false }
def GeomBoundsSaid : Prop := geomBoundsRow.holds Try.pinned (OpenSpec.ofChange geomBoundsSpec)

/-- ITS FALSE NEIGHBOUR: 'it returns false'. Refute it at one input. -/
def geomBoundsWrong : ChangeSpec := { name := "geomBounds", fn := fun _ => fun
  | [d] => { results := [.lit (.bool false)], args := [d] }
  | _ => none }
def GeomBoundsWrongFalsely : Prop := geomBoundsRow.holds Try.pinned (OpenSpec.ofChange geomBoundsWrong)

/-- 'limnerlaw03.GeomSides': WHATEVER THE INPUT: true; the input reads as it did. -/
def geomSidesSpec : ChangeSpec := { name := "geomSides", fn := fun _ => fun
  | [d1, d2, d3] => { results := [.lit (.bool true)], args := [d1, d2, d3] }
  | _ => none }
def geomSidesRow : OpenClaim := { program := "ytfhjndnempmcaaa", sum := "a7f1dccfa10d733e65347739f606576a34d71a084e2380b1002ed5ef3468608e", func := "limner/limnerlaw03.GeomSides", spec := "geomSides", apart := false }
def GeomSidesSaid : Prop := geomSidesRow.holds Try.pinned (OpenSpec.ofChange geomSidesSpec)

/-- ITS FALSE NEIGHBOUR: 'it returns false'. Refute it at one input. -/
def geomSidesWrong : ChangeSpec := { name := "geomSides", fn := fun _ => fun
  | [d1, d2, d3] => { results := [.lit (.bool false)], args := [d1, d2, d3] }
  | _ => none }
def GeomSidesWrongFalsely : Prop := geomSidesRow.holds Try.pinned (OpenSpec.ofChange geomSidesWrong)

/-- 'limnerlaw03.GeomBoxes': WHATEVER THE INPUT: true; the input reads as it did. -/
def geomBoxesSpec : ChangeSpec := { name := "geomBoxes", fn := fun _ => fun
  | [d1, d2, d3] => { results := [.lit (.bool true)], args := [d1, d2, d3] }
  | _ => none }
def geomBoxesRow : OpenClaim := { program := "ytfhjndnempmcaaa", sum := "a7f1dccfa10d733e65347739f606576a34d71a084e2380b1002ed5ef3468608e", func := "limner/limnerlaw03.GeomBoxes", spec := "geomBoxes", unfollowed := true, recurses := true, apart := false }
def GeomBoxesSaid : Prop := geomBoxesRow.holds Try.pinned (OpenSpec.ofChange geomBoxesSpec)

/-- ITS FALSE NEIGHBOUR: 'it returns false'. Refute it at one input. -/
def geomBoxesWrong : ChangeSpec := { name := "geomBoxes", fn := fun _ => fun
  | [d1, d2, d3] => { results := [.lit (.bool false)], args := [d1, d2, d3] }
  | _ => none }
def GeomBoxesWrongFalsely : Prop := geomBoxesRow.holds Try.pinned (OpenSpec.ofChange geomBoxesWrong)

/-- 'limnerlaw03.GeomMeets': WHATEVER THE INPUT: true; the input reads as it did. -/
def geomMeetsSpec : ChangeSpec := { name := "geomMeets", fn := fun _ => fun
  | [d] => { results := [.lit (.bool true)], args := [d] }
  | _ => none }
def geomMeetsRow : OpenClaim := { program := "ytfhjndnempmcaaa", sum := "a7f1dccfa10d733e65347739f606576a34d71a084e2380b1002ed5ef3468608e", func := "limner/limnerlaw03.GeomMeets", spec := "geomMeets", unfollowed := true, recurses := true, apart := false }
def GeomMeetsSaid : Prop := geomMeetsRow.holds Try.pinned (OpenSpec.ofChange geomMeetsSpec)

/-- ITS FALSE NEIGHBOUR: 'it returns false'. Refute it at one input. -/
def geomMeetsWrong : ChangeSpec := { name := "geomMeets", fn := fun _ => fun
  | [d] => { results := [.lit (.bool false)], args := [d] }
  | _ => none }
def GeomMeetsWrongFalsely : Prop := geomMeetsRow.holds Try.pinned (OpenSpec.ofChange geomMeetsWrong)

/- THE SECOND FORM. 'bulk': how many values and letters a reading holds, each counted each time it is reached (what is shared counts as often as it is met; a slice's spare places count too). A statement '..UptoSaid' is the law's where the arguments, and the package variables that the reading takes, are together of bulk at most 1048576: NARROWER than '..Said'. Prove '..Said' where nothing that the law and all that it calls make is longer than what came in: it says more and counts as full. Else prove '..UptoSaid'. A law counts once. -/
mutual
def uptoBulk {H : Type} : DataW H → Nat
  | .lit (.string bytes) => bytes.length + 1
  | .lit _ => 1
  | .nil => 1
  | .ptr d => uptoBulk d + 1
  | .slice elems spare => uptoBulkAll elems + uptoBulkAll spare + 1
  | .agg parts => uptoBulkAll parts + 1
  | .iface _ d => uptoBulk d + 1
  | .map entries => uptoBulkEntries entries + 1
  | .held _ => 1
def uptoBulkAll {H : Type} : List (DataW H) → Nat
  | [] => 0
  | d :: r => uptoBulk d + uptoBulkAll r
def uptoBulkEntries {H : Type} : List (Lit × DataW H) → Nat
  | [] => 0
  | x :: r => uptoBulkEntry x + uptoBulkEntries r
def uptoBulkEntry {H : Type} : Lit × DataW H → Nat
  | (.string bytes, d) => bytes.length + uptoBulk d + 1
  | (_, d) => uptoBulk d + 1
 end
def uptoSmall : (H : Type) → List (DataW H) → Bool := fun _ ds => decide (uptoBulkAll ds ≤ 1048576)
def OpenSpec.upto (s : _root_.Go.ChangeSpec) : _root_.Go.OpenSpec := { _root_.Go.OpenSpec.ofChange s with cond := some uptoSmall }

/-- 'limnerlaw03.GeomWinds', WHERE WHAT IT READS IS OF BULK AT MOST 1048576: true; the input reads as it did. -/
def geomWindsUptoRow : OpenClaim := { program := "ytfhjndnempmcaaa", sum := "a7f1dccfa10d733e65347739f606576a34d71a084e2380b1002ed5ef3468608e", func := "limner/limnerlaw03.GeomWinds", spec := "geomWinds", apart := false, narrowed := true }
def GeomWindsUptoSaid : Prop := geomWindsUptoRow.holds Try.pinned (OpenSpec.upto geomWindsSpec)

/-- 'limnerlaw03.GeomTurns', WHERE WHAT IT READS IS OF BULK AT MOST 1048576: true; the input reads as it did. -/
def geomTurnsUptoRow : OpenClaim := { program := "ytfhjndnempmcaaa", sum := "a7f1dccfa10d733e65347739f606576a34d71a084e2380b1002ed5ef3468608e", func := "limner/limnerlaw03.GeomTurns", spec := "geomTurns", apart := false, narrowed := true }
def GeomTurnsUptoSaid : Prop := geomTurnsUptoRow.holds Try.pinned (OpenSpec.upto geomTurnsSpec)

/-- 'limnerlaw03.GeomBounds', WHERE WHAT IT READS IS OF BULK AT MOST 1048576: true; the input reads as it did. -/
def geomBoundsUptoRow : OpenClaim := { program := "ytfhjndnempmcaaa", sum := "a7f1dccfa10d733e65347739f606576a34d71a084e2380b1002ed5ef3468608e", func := "limner/limnerlaw03.GeomBounds", spec := "geomBounds", apart := false, narrowed := true }
def GeomBoundsUptoSaid : Prop := geomBoundsUptoRow.holds Try.pinned (OpenSpec.upto geomBoundsSpec)

/-- 'limnerlaw03.GeomSides', WHERE WHAT IT READS IS OF BULK AT MOST 1048576: true; the input reads as it did. -/
def geomSidesUptoRow : OpenClaim := { program := "ytfhjndnempmcaaa", sum := "a7f1dccfa10d733e65347739f606576a34d71a084e2380b1002ed5ef3468608e", func := "limner/limnerlaw03.GeomSides", spec := "geomSides", apart := false, narrowed := true }
def GeomSidesUptoSaid : Prop := geomSidesUptoRow.holds Try.pinned (OpenSpec.upto geomSidesSpec)

/-- 'limnerlaw03.GeomBoxes', WHERE WHAT IT READS IS OF BULK AT MOST 1048576: true; the input reads as it did. -/
def geomBoxesUptoRow : OpenClaim := { program := "ytfhjndnempmcaaa", sum := "a7f1dccfa10d733e65347739f606576a34d71a084e2380b1002ed5ef3468608e", func := "limner/limnerlaw03.GeomBoxes", spec := "geomBoxes", unfollowed := true, recurses := true, apart := false, narrowed := true }
def GeomBoxesUptoSaid : Prop := geomBoxesUptoRow.holds Try.pinned (OpenSpec.upto geomBoxesSpec)

/-- 'limnerlaw03.GeomMeets', WHERE WHAT IT READS IS OF BULK AT MOST 1048576: true; the input reads as it did. -/
def geomMeetsUptoRow : OpenClaim := { program := "ytfhjndnempmcaaa", sum := "a7f1dccfa10d733e65347739f606576a34d71a084e2380b1002ed5ef3468608e", func := "limner/limnerlaw03.GeomMeets", spec := "geomMeets", unfollowed := true, recurses := true, apart := false, narrowed := true }
def GeomMeetsUptoSaid : Prop := geomMeetsUptoRow.holds Try.pinned (OpenSpec.upto geomMeetsSpec)

end Rows
end Go.Proofs.Ytfhjndnempmcaaa
