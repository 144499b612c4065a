/-
  No cell of these rows narrows 'for every input' (looked for: loops, veiled, ifaces, maps, wideKeys, modest, calm, conditions, laid).
  DERIVED. THE GIVEN ROWS OF THIS SEAT. 4 by the template 'for every input the law returns true; each argument reads behind the call as it read before'; 0 by the template 'total and deterministic' (their statements: YtffhhgcgnillaaaTotals.lean).
  GIVEN WITH THE SEED: the statements are not yours to turn. If you find one false, say at which input.
  Laid BY PROGRAM, IN A SANDBOX (cutbox-rows.mjs): the forced cells as the released guide's own fill.sh prints them over the translation 1e36543023f645c6… (all of the seat's roots in one cut). By AI agents, Wed Nov 11 2026. No macro, syntax, notation, axiom, sorry.
-/
import Derived.Test.YtffhhgcgnillaaaChecked
import GoSem.Claim
import GoSem.ClaimJoined
import GoSem.ClaimMapViews
import Derived.JoinedTies
import Derived.KernelRfl
namespace Go.Proofs.Ytffhhgcgnillaaa
/- THE CELL 'sum', in the pinned program and in every row, IS THE sha256 OF THE DUMP (.gsa) THAT YtffhhgcgnillaaaProg.lean LOADS. Nothing in Lean hashes anything: it is a label: what it is worth is what the hold of that sum in a sandbox is worth. -/
noncomputable def Try.pinned : Pinned := { name := "ytffhhgcgnillaaa", sum := "1e36543023f645c64713946bae5a2090b3ac825f7da7444c8de5635f71da2d09", checked := Try.checked }
namespace Rows
def none {H : Type} : Left H := { results := [], args := [] }

/-- 'limnerlaw16.StyleShades': WHATEVER THE INPUT: true; the input reads as it did. -/
def styleShadesSpec : ChangeSpec := { name := "styleShades", fn := fun _ => fun
  | [d1, d2, d3] => { results := [.lit (.bool true)], args := [d1, d2, d3] }
  | _ => none }
def styleShadesRow : OpenClaim := { program := "ytffhhgcgnillaaa", sum := "1e36543023f645c64713946bae5a2090b3ac825f7da7444c8de5635f71da2d09", func := "limner/limnerlaw16.StyleShades", spec := "styleShades", inPlace := ["math/bits.Add64", "math/bits.Sub64"], unfollowed := true, recurses := true, named := ["math/bits.divideError", "math/bits.overflowError"], apart := false }
def StyleShadesSaid : Prop := styleShadesRow.holds Try.pinned (OpenSpec.ofChange styleShadesSpec)

/-- ITS FALSE NEIGHBOUR: 'it returns false'. Refute it at one input. -/
def styleShadesWrong : ChangeSpec := { name := "styleShades", fn := fun _ => fun
  | [d1, d2, d3] => { results := [.lit (.bool false)], args := [d1, d2, d3] }
  | _ => none }
def StyleShadesWrongFalsely : Prop := styleShadesRow.holds Try.pinned (OpenSpec.ofChange styleShadesWrong)

/-- 'limnerlaw16.StylePaints': WHATEVER THE INPUT: true; the input reads as it did. -/
def stylePaintsSpec : ChangeSpec := { name := "stylePaints", fn := fun _ => fun
  | [d1, d2] => { results := [.lit (.bool true)], args := [d1, d2] }
  | _ => none }
def stylePaintsRow : OpenClaim := { program := "ytffhhgcgnillaaa", sum := "1e36543023f645c64713946bae5a2090b3ac825f7da7444c8de5635f71da2d09", func := "limner/limnerlaw16.StylePaints", spec := "stylePaints", inPlace := ["math/bits.Add64", "math/bits.Sub64"], unfollowed := true, recurses := true, named := ["math/bits.divideError", "math/bits.overflowError"], apart := false }
def StylePaintsSaid : Prop := stylePaintsRow.holds Try.pinned (OpenSpec.ofChange stylePaintsSpec)

/-- ITS FALSE NEIGHBOUR: 'it returns false'. Refute it at one input. -/
def stylePaintsWrong : ChangeSpec := { name := "stylePaints", fn := fun _ => fun
  | [d1, d2] => { results := [.lit (.bool false)], args := [d1, d2] }
  | _ => none }
def StylePaintsWrongFalsely : Prop := stylePaintsRow.holds Try.pinned (OpenSpec.ofChange stylePaintsWrong)

/-- 'limnerlaw16.StyleEquals': WHATEVER THE INPUT: true; the input reads as it did. -/
def styleEqualsSpec : ChangeSpec := { name := "styleEquals", fn := fun _ => fun
  | [d1, d2] => { results := [.lit (.bool true)], args := [d1, d2] }
  | _ => none }
def styleEqualsRow : OpenClaim := { program := "ytffhhgcgnillaaa", sum := "1e36543023f645c64713946bae5a2090b3ac825f7da7444c8de5635f71da2d09", func := "limner/limnerlaw16.StyleEquals", spec := "styleEquals", inPlace := ["math/bits.Add64", "math/bits.Sub64"], unfollowed := true, recurses := true, named := ["math/bits.divideError", "math/bits.overflowError"], apart := false }
def StyleEqualsSaid : Prop := styleEqualsRow.holds Try.pinned (OpenSpec.ofChange styleEqualsSpec)

/-- ITS FALSE NEIGHBOUR: 'it returns false'. Refute it at one input. -/
def styleEqualsWrong : ChangeSpec := { name := "styleEquals", fn := fun _ => fun
  | [d1, d2] => { results := [.lit (.bool false)], args := [d1, d2] }
  | _ => none }
def StyleEqualsWrongFalsely : Prop := styleEqualsRow.holds Try.pinned (OpenSpec.ofChange styleEqualsWrong)

/-- 'limnerlaw16.StyleChecks': WHATEVER THE INPUT: true; the input reads as it did. -/
def styleChecksSpec : ChangeSpec := { name := "styleChecks", fn := fun _ => fun
  | [d] => { results := [.lit (.bool true)], args := [d] }
  | _ => none }
def styleChecksRow : OpenClaim := { program := "ytffhhgcgnillaaa", sum := "1e36543023f645c64713946bae5a2090b3ac825f7da7444c8de5635f71da2d09", func := "limner/limnerlaw16.StyleChecks", spec := "styleChecks", inPlace := ["math/bits.Add64", "math/bits.Sub64"], unfollowed := true, recurses := true, named := ["math/bits.divideError", "math/bits.overflowError"], apart := false }
def StyleChecksSaid : Prop := styleChecksRow.holds Try.pinned (OpenSpec.ofChange styleChecksSpec)

/-- ITS FALSE NEIGHBOUR: 'it returns false'. Refute it at one input. -/
def styleChecksWrong : ChangeSpec := { name := "styleChecks", fn := fun _ => fun
  | [d] => { results := [.lit (.bool false)], args := [d] }
  | _ => none }
def StyleChecksWrongFalsely : Prop := styleChecksRow.holds Try.pinned (OpenSpec.ofChange styleChecksWrong)

/- THE SECOND FORM. 'bulk': how many values and letters a reading holds, each counted each time it is reached (what is shared counts as often as it is met; a slice's spare places count too). A statement '..UptoSaid' is the law's where the arguments, and the package variables that the reading takes, are together of bulk at most 1048576: NARROWER than '..Said'. Prove '..Said' where nothing that the law and all that it calls make is longer than what came in: it says more and counts as full. Else prove '..UptoSaid'. A law counts once. -/
mutual
def uptoBulk {H : Type} : DataW H → Nat
  | .lit (.string bytes) => bytes.length + 1
  | .lit _ => 1
  | .nil => 1
  | .ptr d => uptoBulk d + 1
  | .slice elems spare => uptoBulkAll elems + uptoBulkAll spare + 1
  | .agg parts => uptoBulkAll parts + 1
  | .iface _ d => uptoBulk d + 1
  | .map entries => uptoBulkEntries entries + 1
  | .held _ => 1
def uptoBulkAll {H : Type} : List (DataW H) → Nat
  | [] => 0
  | d :: r => uptoBulk d + uptoBulkAll r
def uptoBulkEntries {H : Type} : List (Lit × DataW H) → Nat
  | [] => 0
  | x :: r => uptoBulkEntry x + uptoBulkEntries r
def uptoBulkEntry {H : Type} : Lit × DataW H → Nat
  | (.string bytes, d) => bytes.length + uptoBulk d + 1
  | (_, d) => uptoBulk d + 1
 end
def uptoSmall : (H : Type) → List (DataW H) → Bool := fun _ ds => decide (uptoBulkAll ds ≤ 1048576)
def OpenSpec.upto (s : _root_.Go.ChangeSpec) : _root_.Go.OpenSpec := { _root_.Go.OpenSpec.ofChange s with cond := some uptoSmall }

/-- 'limnerlaw16.StyleShades', WHERE WHAT IT READS IS OF BULK AT MOST 1048576: true; the input reads as it did. -/
def styleShadesUptoRow : OpenClaim := { program := "ytffhhgcgnillaaa", sum := "1e36543023f645c64713946bae5a2090b3ac825f7da7444c8de5635f71da2d09", func := "limner/limnerlaw16.StyleShades", spec := "styleShades", inPlace := ["math/bits.Add64", "math/bits.Sub64"], unfollowed := true, recurses := true, named := ["math/bits.divideError", "math/bits.overflowError"], apart := false, narrowed := true }
def StyleShadesUptoSaid : Prop := styleShadesUptoRow.holds Try.pinned (OpenSpec.upto styleShadesSpec)

/-- 'limnerlaw16.StylePaints', WHERE WHAT IT READS IS OF BULK AT MOST 1048576: true; the input reads as it did. -/
def stylePaintsUptoRow : OpenClaim := { program := "ytffhhgcgnillaaa", sum := "1e36543023f645c64713946bae5a2090b3ac825f7da7444c8de5635f71da2d09", func := "limner/limnerlaw16.StylePaints", spec := "stylePaints", inPlace := ["math/bits.Add64", "math/bits.Sub64"], unfollowed := true, recurses := true, named := ["math/bits.divideError", "math/bits.overflowError"], apart := false, narrowed := true }
def StylePaintsUptoSaid : Prop := stylePaintsUptoRow.holds Try.pinned (OpenSpec.upto stylePaintsSpec)

/-- 'limnerlaw16.StyleEquals', WHERE WHAT IT READS IS OF BULK AT MOST 1048576: true; the input reads as it did. -/
def styleEqualsUptoRow : OpenClaim := { program := "ytffhhgcgnillaaa", sum := "1e36543023f645c64713946bae5a2090b3ac825f7da7444c8de5635f71da2d09", func := "limner/limnerlaw16.StyleEquals", spec := "styleEquals", inPlace := ["math/bits.Add64", "math/bits.Sub64"], unfollowed := true, recurses := true, named := ["math/bits.divideError", "math/bits.overflowError"], apart := false, narrowed := true }
def StyleEqualsUptoSaid : Prop := styleEqualsUptoRow.holds Try.pinned (OpenSpec.upto styleEqualsSpec)

/-- 'limnerlaw16.StyleChecks', WHERE WHAT IT READS IS OF BULK AT MOST 1048576: true; the input reads as it did. -/
def styleChecksUptoRow : OpenClaim := { program := "ytffhhgcgnillaaa", sum := "1e36543023f645c64713946bae5a2090b3ac825f7da7444c8de5635f71da2d09", func := "limner/limnerlaw16.StyleChecks", spec := "styleChecks", inPlace := ["math/bits.Add64", "math/bits.Sub64"], unfollowed := true, recurses := true, named := ["math/bits.divideError", "math/bits.overflowError"], apart := false, narrowed := true }
def StyleChecksUptoSaid : Prop := styleChecksUptoRow.holds Try.pinned (OpenSpec.upto styleChecksSpec)

end Rows
end Go.Proofs.Ytffhhgcgnillaaa
