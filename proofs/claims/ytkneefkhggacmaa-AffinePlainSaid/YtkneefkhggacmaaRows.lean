/-
  No cell of these rows narrows 'for every input' (looked for: loops, veiled, ifaces, maps, wideKeys, modest, calm, conditions, laid).
  DERIVED. THE GIVEN ROWS OF THIS SEAT. 12 by the template 'for every input the law returns true; each argument reads behind the call as it read before'; 0 by the template 'total and deterministic' (their statements: YtkneefkhggacmaaTotals.lean).
  GIVEN WITH THE SEED: the statements are not yours to turn. If you find one false, say at which input.
  Laid BY PROGRAM, IN A SANDBOX (cutbox-rows.mjs): the forced cells as the released guide's own fill.sh prints them over the translation 3793a00d2e3ee7f3… (all of the seat's roots in one cut). By AI agents, Wed Nov 11 2026. No macro, syntax, notation, axiom, sorry.
-/
import Derived.Test.YtkneefkhggacmaaChecked
import GoSem.Claim
import GoSem.ClaimJoined
import GoSem.ClaimMapViews
import Derived.JoinedTies
import Derived.KernelRfl
namespace Go.Proofs.Ytkneefkhggacmaa
/- THE CELL 'sum', in the pinned program and in every row, IS THE sha256 OF THE DUMP (.gsa) THAT YtkneefkhggacmaaProg.lean LOADS. Nothing in Lean hashes anything: it is a label: what it is worth is what the hold of that sum in a sandbox is worth. -/
noncomputable def Try.pinned : Pinned := { name := "ytkneefkhggacmaa", sum := "3793a00d2e3ee7f3f4eeb18e0d9fe6ac8a363f31f5e7befef06a4eec65cd7200", checked := Try.checked }
namespace Rows
def none {H : Type} : Left H := { results := [], args := [] }

/-- 'limnerlaw04.AffineApplies': WHATEVER THE INPUT: true; the input reads as it did. -/
def affineAppliesSpec : ChangeSpec := { name := "affineApplies", fn := fun _ => fun
  | [d1, d2] => { results := [.lit (.bool true)], args := [d1, d2] }
  | _ => none }
def affineAppliesRow : OpenClaim := { program := "ytkneefkhggacmaa", sum := "3793a00d2e3ee7f3f4eeb18e0d9fe6ac8a363f31f5e7befef06a4eec65cd7200", func := "limner/limnerlaw04.AffineApplies", spec := "affineApplies", apart := false }
def AffineAppliesSaid : Prop := affineAppliesRow.holds Try.pinned (OpenSpec.ofChange affineAppliesSpec)

/-- ITS FALSE NEIGHBOUR: 'it returns false'. Refute it at one input. -/
def affineAppliesWrong : ChangeSpec := { name := "affineApplies", fn := fun _ => fun
  | [d1, d2] => { results := [.lit (.bool false)], args := [d1, d2] }
  | _ => none }
def AffineAppliesWrongFalsely : Prop := affineAppliesRow.holds Try.pinned (OpenSpec.ofChange affineAppliesWrong)

/-- 'limnerlaw04.AffinePlain': WHATEVER THE INPUT: true; the input reads as it did. -/
def affinePlainSpec : ChangeSpec := { name := "affinePlain", fn := fun _ => fun
  | [d] => { results := [.lit (.bool true)], args := [d] }
  | _ => none }
def affinePlainRow : OpenClaim := { program := "ytkneefkhggacmaa", sum := "3793a00d2e3ee7f3f4eeb18e0d9fe6ac8a363f31f5e7befef06a4eec65cd7200", func := "limner/limnerlaw04.AffinePlain", spec := "affinePlain", apart := false }
def AffinePlainSaid : Prop := affinePlainRow.holds Try.pinned (OpenSpec.ofChange affinePlainSpec)

/-- ITS FALSE NEIGHBOUR: 'it returns false'. Refute it at one input. -/
def affinePlainWrong : ChangeSpec := { name := "affinePlain", fn := fun _ => fun
  | [d] => { results := [.lit (.bool false)], args := [d] }
  | _ => none }
def AffinePlainWrongFalsely : Prop := affinePlainRow.holds Try.pinned (OpenSpec.ofChange affinePlainWrong)

/-- 'limnerlaw04.AffineJoins': WHATEVER THE INPUT: true; the input reads as it did. -/
def affineJoinsSpec : ChangeSpec := { name := "affineJoins", fn := fun _ => fun
  | [d1, d2] => { results := [.lit (.bool true)], args := [d1, d2] }
  | _ => none }
def affineJoinsRow : OpenClaim := { program := "ytkneefkhggacmaa", sum := "3793a00d2e3ee7f3f4eeb18e0d9fe6ac8a363f31f5e7befef06a4eec65cd7200", func := "limner/limnerlaw04.AffineJoins", spec := "affineJoins", apart := false }
def AffineJoinsSaid : Prop := affineJoinsRow.holds Try.pinned (OpenSpec.ofChange affineJoinsSpec)

/-- ITS FALSE NEIGHBOUR: 'it returns false'. Refute it at one input. -/
def affineJoinsWrong : ChangeSpec := { name := "affineJoins", fn := fun _ => fun
  | [d1, d2] => { results := [.lit (.bool false)], args := [d1, d2] }
  | _ => none }
def AffineJoinsWrongFalsely : Prop := affineJoinsRow.holds Try.pinned (OpenSpec.ofChange affineJoinsWrong)

/-- 'limnerlaw04.AffineNear': WHATEVER THE INPUT: true; the input reads as it did. -/
def affineNearSpec : ChangeSpec := { name := "affineNear", fn := fun _ => fun
  | [d1, d2, d3] => { results := [.lit (.bool true)], args := [d1, d2, d3] }
  | _ => none }
def affineNearRow : OpenClaim := { program := "ytkneefkhggacmaa", sum := "3793a00d2e3ee7f3f4eeb18e0d9fe6ac8a363f31f5e7befef06a4eec65cd7200", func := "limner/limnerlaw04.AffineNear", spec := "affineNear", apart := false }
def AffineNearSaid : Prop := affineNearRow.holds Try.pinned (OpenSpec.ofChange affineNearSpec)

/-- ITS FALSE NEIGHBOUR: 'it returns false'. Refute it at one input. -/
def affineNearWrong : ChangeSpec := { name := "affineNear", fn := fun _ => fun
  | [d1, d2, d3] => { results := [.lit (.bool false)], args := [d1, d2, d3] }
  | _ => none }
def AffineNearWrongFalsely : Prop := affineNearRow.holds Try.pinned (OpenSpec.ofChange affineNearWrong)

/-- 'limnerlaw04.AffineBounds': WHATEVER THE INPUT: true; the input reads as it did. -/
def affineBoundsSpec : ChangeSpec := { name := "affineBounds", fn := fun _ => fun
  | [d1, d2, d3] => { results := [.lit (.bool true)], args := [d1, d2, d3] }
  | _ => none }
def affineBoundsRow : OpenClaim := { program := "ytkneefkhggacmaa", sum := "3793a00d2e3ee7f3f4eeb18e0d9fe6ac8a363f31f5e7befef06a4eec65cd7200", func := "limner/limnerlaw04.AffineBounds", spec := "affineBounds", apart := false }
def AffineBoundsSaid : Prop := affineBoundsRow.holds Try.pinned (OpenSpec.ofChange affineBoundsSpec)

/-- ITS FALSE NEIGHBOUR: 'it returns false'. Refute it at one input. -/
def affineBoundsWrong : ChangeSpec := { name := "affineBounds", fn := fun _ => fun
  | [d1, d2, d3] => { results := [.lit (.bool false)], args := [d1, d2, d3] }
  | _ => none }
def AffineBoundsWrongFalsely : Prop := affineBoundsRow.holds Try.pinned (OpenSpec.ofChange affineBoundsWrong)

/-- 'limnerlaw04.AffineDets': WHATEVER THE INPUT: true; the input reads as it did. -/
def affineDetsSpec : ChangeSpec := { name := "affineDets", fn := fun _ => fun
  | [d1, d2] => { results := [.lit (.bool true)], args := [d1, d2] }
  | _ => none }
def affineDetsRow : OpenClaim := { program := "ytkneefkhggacmaa", sum := "3793a00d2e3ee7f3f4eeb18e0d9fe6ac8a363f31f5e7befef06a4eec65cd7200", func := "limner/limnerlaw04.AffineDets", spec := "affineDets", inPlace := ["math/bits.Sub64"], apart := false }
def AffineDetsSaid : Prop := affineDetsRow.holds Try.pinned (OpenSpec.ofChange affineDetsSpec)

/-- ITS FALSE NEIGHBOUR: 'it returns false'. Refute it at one input. -/
def affineDetsWrong : ChangeSpec := { name := "affineDets", fn := fun _ => fun
  | [d1, d2] => { results := [.lit (.bool false)], args := [d1, d2] }
  | _ => none }
def AffineDetsWrongFalsely : Prop := affineDetsRow.holds Try.pinned (OpenSpec.ofChange affineDetsWrong)

/-- 'limnerlaw05.CurveFlats': WHATEVER THE INPUT: true; the input reads as it did. -/
def curveFlatsSpec : ChangeSpec := { name := "curveFlats", fn := fun _ => fun
  | [d1, d2] => { results := [.lit (.bool true)], args := [d1, d2] }
  | _ => none }
def curveFlatsRow : OpenClaim := { program := "ytkneefkhggacmaa", sum := "3793a00d2e3ee7f3f4eeb18e0d9fe6ac8a363f31f5e7befef06a4eec65cd7200", func := "limner/limnerlaw05.CurveFlats", spec := "curveFlats", unfollowed := true, recurses := true, apart := false }
def CurveFlatsSaid : Prop := curveFlatsRow.holds Try.pinned (OpenSpec.ofChange curveFlatsSpec)

/-- ITS FALSE NEIGHBOUR: 'it returns false'. Refute it at one input. -/
def curveFlatsWrong : ChangeSpec := { name := "curveFlats", fn := fun _ => fun
  | [d1, d2] => { results := [.lit (.bool false)], args := [d1, d2] }
  | _ => none }
def CurveFlatsWrongFalsely : Prop := curveFlatsRow.holds Try.pinned (OpenSpec.ofChange curveFlatsWrong)

/-- 'limnerlaw05.CurveNear': WHATEVER THE INPUT: true; the input reads as it did. -/
def curveNearSpec : ChangeSpec := { name := "curveNear", fn := fun _ => fun
  | [d1, d2] => { results := [.lit (.bool true)], args := [d1, d2] }
  | _ => none }
def curveNearRow : OpenClaim := { program := "ytkneefkhggacmaa", sum := "3793a00d2e3ee7f3f4eeb18e0d9fe6ac8a363f31f5e7befef06a4eec65cd7200", func := "limner/limnerlaw05.CurveNear", spec := "curveNear", unfollowed := true, recurses := true, apart := false }
def CurveNearSaid : Prop := curveNearRow.holds Try.pinned (OpenSpec.ofChange curveNearSpec)

/-- ITS FALSE NEIGHBOUR: 'it returns false'. Refute it at one input. -/
def curveNearWrong : ChangeSpec := { name := "curveNear", fn := fun _ => fun
  | [d1, d2] => { results := [.lit (.bool false)], args := [d1, d2] }
  | _ => none }
def CurveNearWrongFalsely : Prop := curveNearRow.holds Try.pinned (OpenSpec.ofChange curveNearWrong)

/-- 'limnerlaw05.CurveLines': WHATEVER THE INPUT: true; the input reads as it did. -/
def curveLinesSpec : ChangeSpec := { name := "curveLines", fn := fun _ => fun
  | [d1, d2] => { results := [.lit (.bool true)], args := [d1, d2] }
  | _ => none }
def curveLinesRow : OpenClaim := { program := "ytkneefkhggacmaa", sum := "3793a00d2e3ee7f3f4eeb18e0d9fe6ac8a363f31f5e7befef06a4eec65cd7200", func := "limner/limnerlaw05.CurveLines", spec := "curveLines", unfollowed := true, recurses := true, apart := false }
def CurveLinesSaid : Prop := curveLinesRow.holds Try.pinned (OpenSpec.ofChange curveLinesSpec)

/-- ITS FALSE NEIGHBOUR: 'it returns false'. Refute it at one input. -/
def curveLinesWrong : ChangeSpec := { name := "curveLines", fn := fun _ => fun
  | [d1, d2] => { results := [.lit (.bool false)], args := [d1, d2] }
  | _ => none }
def CurveLinesWrongFalsely : Prop := curveLinesRow.holds Try.pinned (OpenSpec.ofChange curveLinesWrong)

/-- 'limnerlaw05.CurveHalves': WHATEVER THE INPUT: true; the input reads as it did. -/
def curveHalvesSpec : ChangeSpec := { name := "curveHalves", fn := fun _ => fun
  | [d] => { results := [.lit (.bool true)], args := [d] }
  | _ => none }
def curveHalvesRow : OpenClaim := { program := "ytkneefkhggacmaa", sum := "3793a00d2e3ee7f3f4eeb18e0d9fe6ac8a363f31f5e7befef06a4eec65cd7200", func := "limner/limnerlaw05.CurveHalves", spec := "curveHalves", unfollowed := true, recurses := true, apart := false }
def CurveHalvesSaid : Prop := curveHalvesRow.holds Try.pinned (OpenSpec.ofChange curveHalvesSpec)

/-- ITS FALSE NEIGHBOUR: 'it returns false'. Refute it at one input. -/
def curveHalvesWrong : ChangeSpec := { name := "curveHalves", fn := fun _ => fun
  | [d] => { results := [.lit (.bool false)], args := [d] }
  | _ => none }
def CurveHalvesWrongFalsely : Prop := curveHalvesRow.holds Try.pinned (OpenSpec.ofChange curveHalvesWrong)

/-- 'limnerlaw05.CurveParts': WHATEVER THE INPUT: true; the input reads as it did. -/
def curvePartsSpec : ChangeSpec := { name := "curveParts", fn := fun _ => fun
  | [d1, d2] => { results := [.lit (.bool true)], args := [d1, d2] }
  | _ => none }
def curvePartsRow : OpenClaim := { program := "ytkneefkhggacmaa", sum := "3793a00d2e3ee7f3f4eeb18e0d9fe6ac8a363f31f5e7befef06a4eec65cd7200", func := "limner/limnerlaw05.CurveParts", spec := "curveParts", unfollowed := true, recurses := true, apart := false }
def CurvePartsSaid : Prop := curvePartsRow.holds Try.pinned (OpenSpec.ofChange curvePartsSpec)

/-- ITS FALSE NEIGHBOUR: 'it returns false'. Refute it at one input. -/
def curvePartsWrong : ChangeSpec := { name := "curveParts", fn := fun _ => fun
  | [d1, d2] => { results := [.lit (.bool false)], args := [d1, d2] }
  | _ => none }
def CurvePartsWrongFalsely : Prop := curvePartsRow.holds Try.pinned (OpenSpec.ofChange curvePartsWrong)

/-- 'limnerlaw05.CurveBounds': WHATEVER THE INPUT: true; the input reads as it did. -/
def curveBoundsSpec : ChangeSpec := { name := "curveBounds", fn := fun _ => fun
  | [d1, d2] => { results := [.lit (.bool true)], args := [d1, d2] }
  | _ => none }
def curveBoundsRow : OpenClaim := { program := "ytkneefkhggacmaa", sum := "3793a00d2e3ee7f3f4eeb18e0d9fe6ac8a363f31f5e7befef06a4eec65cd7200", func := "limner/limnerlaw05.CurveBounds", spec := "curveBounds", unfollowed := true, recurses := true, apart := false }
def CurveBoundsSaid : Prop := curveBoundsRow.holds Try.pinned (OpenSpec.ofChange curveBoundsSpec)

/-- ITS FALSE NEIGHBOUR: 'it returns false'. Refute it at one input. -/
def curveBoundsWrong : ChangeSpec := { name := "curveBounds", fn := fun _ => fun
  | [d1, d2] => { results := [.lit (.bool false)], args := [d1, d2] }
  | _ => none }
def CurveBoundsWrongFalsely : Prop := curveBoundsRow.holds Try.pinned (OpenSpec.ofChange curveBoundsWrong)

/- THE SECOND FORM. 'bulk': how many values and letters a reading holds, each counted each time it is reached (what is shared counts as often as it is met; a slice's spare places count too). A statement '..UptoSaid' is the law's where the arguments, and the package variables that the reading takes, are together of bulk at most 1048576: NARROWER than '..Said'. Prove '..Said' where nothing that the law and all that it calls make is longer than what came in: it says more and counts as full. Else prove '..UptoSaid'. A law counts once. -/
mutual
def uptoBulk {H : Type} : DataW H → Nat
  | .lit (.string bytes) => bytes.length + 1
  | .lit _ => 1
  | .nil => 1
  | .ptr d => uptoBulk d + 1
  | .slice elems spare => uptoBulkAll elems + uptoBulkAll spare + 1
  | .agg parts => uptoBulkAll parts + 1
  | .iface _ d => uptoBulk d + 1
  | .map entries => uptoBulkEntries entries + 1
  | .held _ => 1
def uptoBulkAll {H : Type} : List (DataW H) → Nat
  | [] => 0
  | d :: r => uptoBulk d + uptoBulkAll r
def uptoBulkEntries {H : Type} : List (Lit × DataW H) → Nat
  | [] => 0
  | x :: r => uptoBulkEntry x + uptoBulkEntries r
def uptoBulkEntry {H : Type} : Lit × DataW H → Nat
  | (.string bytes, d) => bytes.length + uptoBulk d + 1
  | (_, d) => uptoBulk d + 1
 end
def uptoSmall : (H : Type) → List (DataW H) → Bool := fun _ ds => decide (uptoBulkAll ds ≤ 1048576)
def OpenSpec.upto (s : _root_.Go.ChangeSpec) : _root_.Go.OpenSpec := { _root_.Go.OpenSpec.ofChange s with cond := some uptoSmall }

/-- 'limnerlaw04.AffineApplies', WHERE WHAT IT READS IS OF BULK AT MOST 1048576: true; the input reads as it did. -/
def affineAppliesUptoRow : OpenClaim := { program := "ytkneefkhggacmaa", sum := "3793a00d2e3ee7f3f4eeb18e0d9fe6ac8a363f31f5e7befef06a4eec65cd7200", func := "limner/limnerlaw04.AffineApplies", spec := "affineApplies", apart := false, narrowed := true }
def AffineAppliesUptoSaid : Prop := affineAppliesUptoRow.holds Try.pinned (OpenSpec.upto affineAppliesSpec)

/-- 'limnerlaw04.AffinePlain', WHERE WHAT IT READS IS OF BULK AT MOST 1048576: true; the input reads as it did. -/
def affinePlainUptoRow : OpenClaim := { program := "ytkneefkhggacmaa", sum := "3793a00d2e3ee7f3f4eeb18e0d9fe6ac8a363f31f5e7befef06a4eec65cd7200", func := "limner/limnerlaw04.AffinePlain", spec := "affinePlain", apart := false, narrowed := true }
def AffinePlainUptoSaid : Prop := affinePlainUptoRow.holds Try.pinned (OpenSpec.upto affinePlainSpec)

/-- 'limnerlaw04.AffineJoins', WHERE WHAT IT READS IS OF BULK AT MOST 1048576: true; the input reads as it did. -/
def affineJoinsUptoRow : OpenClaim := { program := "ytkneefkhggacmaa", sum := "3793a00d2e3ee7f3f4eeb18e0d9fe6ac8a363f31f5e7befef06a4eec65cd7200", func := "limner/limnerlaw04.AffineJoins", spec := "affineJoins", apart := false, narrowed := true }
def AffineJoinsUptoSaid : Prop := affineJoinsUptoRow.holds Try.pinned (OpenSpec.upto affineJoinsSpec)

/-- 'limnerlaw04.AffineNear', WHERE WHAT IT READS IS OF BULK AT MOST 1048576: true; the input reads as it did. -/
def affineNearUptoRow : OpenClaim := { program := "ytkneefkhggacmaa", sum := "3793a00d2e3ee7f3f4eeb18e0d9fe6ac8a363f31f5e7befef06a4eec65cd7200", func := "limner/limnerlaw04.AffineNear", spec := "affineNear", apart := false, narrowed := true }
def AffineNearUptoSaid : Prop := affineNearUptoRow.holds Try.pinned (OpenSpec.upto affineNearSpec)

/-- 'limnerlaw04.AffineBounds', WHERE WHAT IT READS IS OF BULK AT MOST 1048576: true; the input reads as it did. -/
def affineBoundsUptoRow : OpenClaim := { program := "ytkneefkhggacmaa", sum := "3793a00d2e3ee7f3f4eeb18e0d9fe6ac8a363f31f5e7befef06a4eec65cd7200", func := "limner/limnerlaw04.AffineBounds", spec := "affineBounds", apart := false, narrowed := true }
def AffineBoundsUptoSaid : Prop := affineBoundsUptoRow.holds Try.pinned (OpenSpec.upto affineBoundsSpec)

/-- 'limnerlaw04.AffineDets', WHERE WHAT IT READS IS OF BULK AT MOST 1048576: true; the input reads as it did. -/
def affineDetsUptoRow : OpenClaim := { program := "ytkneefkhggacmaa", sum := "3793a00d2e3ee7f3f4eeb18e0d9fe6ac8a363f31f5e7befef06a4eec65cd7200", func := "limner/limnerlaw04.AffineDets", spec := "affineDets", inPlace := ["math/bits.Sub64"], apart := false, narrowed := true }
def AffineDetsUptoSaid : Prop := affineDetsUptoRow.holds Try.pinned (OpenSpec.upto affineDetsSpec)

/-- 'limnerlaw05.CurveFlats', WHERE WHAT IT READS IS OF BULK AT MOST 1048576: true; the input reads as it did. -/
def curveFlatsUptoRow : OpenClaim := { program := "ytkneefkhggacmaa", sum := "3793a00d2e3ee7f3f4eeb18e0d9fe6ac8a363f31f5e7befef06a4eec65cd7200", func := "limner/limnerlaw05.CurveFlats", spec := "curveFlats", unfollowed := true, recurses := true, apart := false, narrowed := true }
def CurveFlatsUptoSaid : Prop := curveFlatsUptoRow.holds Try.pinned (OpenSpec.upto curveFlatsSpec)

/-- 'limnerlaw05.CurveNear', WHERE WHAT IT READS IS OF BULK AT MOST 1048576: true; the input reads as it did. -/
def curveNearUptoRow : OpenClaim := { program := "ytkneefkhggacmaa", sum := "3793a00d2e3ee7f3f4eeb18e0d9fe6ac8a363f31f5e7befef06a4eec65cd7200", func := "limner/limnerlaw05.CurveNear", spec := "curveNear", unfollowed := true, recurses := true, apart := false, narrowed := true }
def CurveNearUptoSaid : Prop := curveNearUptoRow.holds Try.pinned (OpenSpec.upto curveNearSpec)

/-- 'limnerlaw05.CurveLines', WHERE WHAT IT READS IS OF BULK AT MOST 1048576: true; the input reads as it did. -/
def curveLinesUptoRow : OpenClaim := { program := "ytkneefkhggacmaa", sum := "3793a00d2e3ee7f3f4eeb18e0d9fe6ac8a363f31f5e7befef06a4eec65cd7200", func := "limner/limnerlaw05.CurveLines", spec := "curveLines", unfollowed := true, recurses := true, apart := false, narrowed := true }
def CurveLinesUptoSaid : Prop := curveLinesUptoRow.holds Try.pinned (OpenSpec.upto curveLinesSpec)

/-- 'limnerlaw05.CurveHalves', WHERE WHAT IT READS IS OF BULK AT MOST 1048576: true; the input reads as it did. -/
def curveHalvesUptoRow : OpenClaim := { program := "ytkneefkhggacmaa", sum := "3793a00d2e3ee7f3f4eeb18e0d9fe6ac8a363f31f5e7befef06a4eec65cd7200", func := "limner/limnerlaw05.CurveHalves", spec := "curveHalves", unfollowed := true, recurses := true, apart := false, narrowed := true }
def CurveHalvesUptoSaid : Prop := curveHalvesUptoRow.holds Try.pinned (OpenSpec.upto curveHalvesSpec)

/-- 'limnerlaw05.CurveParts', WHERE WHAT IT READS IS OF BULK AT MOST 1048576: true; the input reads as it did. -/
def curvePartsUptoRow : OpenClaim := { program := "ytkneefkhggacmaa", sum := "3793a00d2e3ee7f3f4eeb18e0d9fe6ac8a363f31f5e7befef06a4eec65cd7200", func := "limner/limnerlaw05.CurveParts", spec := "curveParts", unfollowed := true, recurses := true, apart := false, narrowed := true }
def CurvePartsUptoSaid : Prop := curvePartsUptoRow.holds Try.pinned (OpenSpec.upto curvePartsSpec)

/-- 'limnerlaw05.CurveBounds', WHERE WHAT IT READS IS OF BULK AT MOST 1048576: true; the input reads as it did. -/
def curveBoundsUptoRow : OpenClaim := { program := "ytkneefkhggacmaa", sum := "3793a00d2e3ee7f3f4eeb18e0d9fe6ac8a363f31f5e7befef06a4eec65cd7200", func := "limner/limnerlaw05.CurveBounds", spec := "curveBounds", unfollowed := true, recurses := true, apart := false, narrowed := true }
def CurveBoundsUptoSaid : Prop := curveBoundsUptoRow.holds Try.pinned (OpenSpec.upto curveBoundsSpec)

end Rows
end Go.Proofs.Ytkneefkhggacmaa
