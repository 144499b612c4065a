/-
  NARROWER THAN 'FOR EVERY INPUT', by the rows' own cells (each row's printed sentence says how): PathFlats: laid · PathChecks: laid · PathSplits: laid · PathApplies: laid · PathEdits: laid · PathBack: laid.
  DERIVED. THE GIVEN ROWS OF THIS SEAT. 6 by the template 'for every input the law returns true; each argument reads behind the call as it read before'; 0 by the template 'total and deterministic' (their statements: YtpleidpbapgmiaaDoorTotals.lean).
  GIVEN WITH THE SEED: the statements are not yours to turn. If you find one false, say at which input.
  Laid BY PROGRAM, IN A SANDBOX (cutbox-rows.mjs): the forced cells as the released guide's own fill.sh prints them over the translation 90a59cb29c446bb5… (all of the seat's roots in one cut). By AI agents, Wed Nov 11 2026. No macro, syntax, notation, axiom, sorry.
-/
import Derived.Test.YtpleidpbapgmiaaDoorChecked
import GoSem.Claim
import GoSem.ClaimJoined
import GoSem.ClaimMapViews
import Derived.JoinedTies
import Derived.KernelRfl
namespace Go.Proofs.YtpleidpbapgmiaaDoor
/- THE CELL 'sum', in the pinned program and in every row, IS THE sha256 OF THE DUMP (.gsa) THAT YtpleidpbapgmiaaDoorProg.lean LOADS. Nothing in Lean hashes anything: it is a label: what it is worth is what the hold of that sum in a sandbox is worth. -/
noncomputable def Tryd.pinned : Pinned := { name := "ytpleidpbapgmiaadoor", sum := "90a59cb29c446bb54a1c0f3a48414bbab6fb52f894a5803d478baa084f5172f5", checked := Tryd.checked }
namespace Rows
def none {H : Type} : Left H := { results := [], args := [] }

/- WHAT THE LISTED PACKAGE-LEVEL VARIABLES READ AS WHEN THE CALL BEGINS. Each datum BY PROGRAM (the guide's laid-datum.mjs) off the statement by which the dump's own 'gosem.cut.vars' lays the variable. In a bare row this is a premise. The card (YtpleidpbapgmiaaDoorCards.lean) ties it to the program's text. -/
def laid_limner_path_needs {H : Type} : DataW H := .agg [.lit (.int .i64 0), .lit (.int .i64 1), .lit (.int .i64 1), .lit (.int .i64 2), .lit (.int .i64 3), .lit (.int .i64 0)]

/-- 'limnerlaw06.PathFlats': WHATEVER THE INPUT: true; the input reads as it did. -/
def pathFlatsSpec : ChangeSpec := { name := "pathFlats", fn := fun _ => fun
  | [d1, d2] => { results := [.lit (.bool true)], args := [d1, d2] }
  | _ => none }
def pathFlatsRow : OpenClaim := { program := "ytpleidpbapgmiaadoor", sum := "90a59cb29c446bb54a1c0f3a48414bbab6fb52f894a5803d478baa084f5172f5", func := "limner/limnerlaw06.PathFlats", spec := "pathFlats", unfollowed := true, recurses := true, named := ["limner/path.needs"], apart := false, laid := [("limner/path.needs", laid_limner_path_needs)] }
def PathFlatsSaid : Prop := pathFlatsRow.holds Tryd.pinned (OpenSpec.ofChange pathFlatsSpec)

/-- ITS FALSE NEIGHBOUR: 'it returns false'. Refute it at one input. -/
def pathFlatsWrong : ChangeSpec := { name := "pathFlats", fn := fun _ => fun
  | [d1, d2] => { results := [.lit (.bool false)], args := [d1, d2] }
  | _ => none }
def PathFlatsWrongFalsely : Prop := pathFlatsRow.holds Tryd.pinned (OpenSpec.ofChange pathFlatsWrong)

/-- 'limnerlaw06.PathChecks': WHATEVER THE INPUT: true; the input reads as it did. -/
def pathChecksSpec : ChangeSpec := { name := "pathChecks", fn := fun _ => fun
  | [d1, d2] => { results := [.lit (.bool true)], args := [d1, d2] }
  | _ => none }
def pathChecksRow : OpenClaim := { program := "ytpleidpbapgmiaadoor", sum := "90a59cb29c446bb54a1c0f3a48414bbab6fb52f894a5803d478baa084f5172f5", func := "limner/limnerlaw06.PathChecks", spec := "pathChecks", unfollowed := true, recurses := true, named := ["limner/path.needs"], apart := false, laid := [("limner/path.needs", laid_limner_path_needs)] }
def PathChecksSaid : Prop := pathChecksRow.holds Tryd.pinned (OpenSpec.ofChange pathChecksSpec)

/-- ITS FALSE NEIGHBOUR: 'it returns false'. Refute it at one input. -/
def pathChecksWrong : ChangeSpec := { name := "pathChecks", fn := fun _ => fun
  | [d1, d2] => { results := [.lit (.bool false)], args := [d1, d2] }
  | _ => none }
def PathChecksWrongFalsely : Prop := pathChecksRow.holds Tryd.pinned (OpenSpec.ofChange pathChecksWrong)

/-- 'limnerlaw06.PathSplits': WHATEVER THE INPUT: true; the input reads as it did. -/
def pathSplitsSpec : ChangeSpec := { name := "pathSplits", fn := fun _ => fun
  | [d1, d2, d3] => { results := [.lit (.bool true)], args := [d1, d2, d3] }
  | _ => none }
def pathSplitsRow : OpenClaim := { program := "ytpleidpbapgmiaadoor", sum := "90a59cb29c446bb54a1c0f3a48414bbab6fb52f894a5803d478baa084f5172f5", func := "limner/limnerlaw06.PathSplits", spec := "pathSplits", unfollowed := true, recurses := true, named := ["limner/path.needs"], apart := false, laid := [("limner/path.needs", laid_limner_path_needs)] }
def PathSplitsSaid : Prop := pathSplitsRow.holds Tryd.pinned (OpenSpec.ofChange pathSplitsSpec)

/-- ITS FALSE NEIGHBOUR: 'it returns false'. Refute it at one input. -/
def pathSplitsWrong : ChangeSpec := { name := "pathSplits", fn := fun _ => fun
  | [d1, d2, d3] => { results := [.lit (.bool false)], args := [d1, d2, d3] }
  | _ => none }
def PathSplitsWrongFalsely : Prop := pathSplitsRow.holds Tryd.pinned (OpenSpec.ofChange pathSplitsWrong)

/-- 'limnerlaw06.PathApplies': WHATEVER THE INPUT: true; the input reads as it did. -/
def pathAppliesSpec : ChangeSpec := { name := "pathApplies", fn := fun _ => fun
  | [d1, d2] => { results := [.lit (.bool true)], args := [d1, d2] }
  | _ => none }
def pathAppliesRow : OpenClaim := { program := "ytpleidpbapgmiaadoor", sum := "90a59cb29c446bb54a1c0f3a48414bbab6fb52f894a5803d478baa084f5172f5", func := "limner/limnerlaw06.PathApplies", spec := "pathApplies", unfollowed := true, recurses := true, named := ["limner/path.needs"], apart := false, laid := [("limner/path.needs", laid_limner_path_needs)] }
def PathAppliesSaid : Prop := pathAppliesRow.holds Tryd.pinned (OpenSpec.ofChange pathAppliesSpec)

/-- ITS FALSE NEIGHBOUR: 'it returns false'. Refute it at one input. -/
def pathAppliesWrong : ChangeSpec := { name := "pathApplies", fn := fun _ => fun
  | [d1, d2] => { results := [.lit (.bool false)], args := [d1, d2] }
  | _ => none }
def PathAppliesWrongFalsely : Prop := pathAppliesRow.holds Tryd.pinned (OpenSpec.ofChange pathAppliesWrong)

/-- 'limnerlaw06.PathEdits': WHATEVER THE INPUT: true; the input reads as it did. -/
def pathEditsSpec : ChangeSpec := { name := "pathEdits", fn := fun _ => fun
  | [d] => { results := [.lit (.bool true)], args := [d] }
  | _ => none }
def pathEditsRow : OpenClaim := { program := "ytpleidpbapgmiaadoor", sum := "90a59cb29c446bb54a1c0f3a48414bbab6fb52f894a5803d478baa084f5172f5", func := "limner/limnerlaw06.PathEdits", spec := "pathEdits", unfollowed := true, recurses := true, named := ["limner/path.needs"], apart := false, laid := [("limner/path.needs", laid_limner_path_needs)] }
def PathEditsSaid : Prop := pathEditsRow.holds Tryd.pinned (OpenSpec.ofChange pathEditsSpec)

/-- ITS FALSE NEIGHBOUR: 'it returns false'. Refute it at one input. -/
def pathEditsWrong : ChangeSpec := { name := "pathEdits", fn := fun _ => fun
  | [d] => { results := [.lit (.bool false)], args := [d] }
  | _ => none }
def PathEditsWrongFalsely : Prop := pathEditsRow.holds Tryd.pinned (OpenSpec.ofChange pathEditsWrong)

/-- 'limnerlaw06.PathBack': WHATEVER THE INPUT: true; the input reads as it did. -/
def pathBackSpec : ChangeSpec := { name := "pathBack", fn := fun _ => fun
  | [d] => { results := [.lit (.bool true)], args := [d] }
  | _ => none }
def pathBackRow : OpenClaim := { program := "ytpleidpbapgmiaadoor", sum := "90a59cb29c446bb54a1c0f3a48414bbab6fb52f894a5803d478baa084f5172f5", func := "limner/limnerlaw06.PathBack", spec := "pathBack", unfollowed := true, recurses := true, named := ["limner/path.needs"], apart := false, laid := [("limner/path.needs", laid_limner_path_needs)] }
def PathBackSaid : Prop := pathBackRow.holds Tryd.pinned (OpenSpec.ofChange pathBackSpec)

/-- ITS FALSE NEIGHBOUR: 'it returns false'. Refute it at one input. -/
def pathBackWrong : ChangeSpec := { name := "pathBack", fn := fun _ => fun
  | [d] => { results := [.lit (.bool false)], args := [d] }
  | _ => none }
def PathBackWrongFalsely : Prop := pathBackRow.holds Tryd.pinned (OpenSpec.ofChange pathBackWrong)

/- THE SECOND FORM. 'bulk': how many values and letters a reading holds, each counted each time it is reached (what is shared counts as often as it is met; a slice's spare places count too). A statement '..UptoSaid' is the law's where the arguments, and the package variables that the reading takes, are together of bulk at most 1048576: NARROWER than '..Said'. Prove '..Said' where nothing that the law and all that it calls make is longer than what came in: it says more and counts as full. Else prove '..UptoSaid'. A law counts once. -/
mutual
def uptoBulk {H : Type} : DataW H → Nat
  | .lit (.string bytes) => bytes.length + 1
  | .lit _ => 1
  | .nil => 1
  | .ptr d => uptoBulk d + 1
  | .slice elems spare => uptoBulkAll elems + uptoBulkAll spare + 1
  | .agg parts => uptoBulkAll parts + 1
  | .iface _ d => uptoBulk d + 1
  | .map entries => uptoBulkEntries entries + 1
  | .held _ => 1
def uptoBulkAll {H : Type} : List (DataW H) → Nat
  | [] => 0
  | d :: r => uptoBulk d + uptoBulkAll r
def uptoBulkEntries {H : Type} : List (Lit × DataW H) → Nat
  | [] => 0
  | x :: r => uptoBulkEntry x + uptoBulkEntries r
def uptoBulkEntry {H : Type} : Lit × DataW H → Nat
  | (.string bytes, d) => bytes.length + uptoBulk d + 1
  | (_, d) => uptoBulk d + 1
 end
def uptoSmall : (H : Type) → List (DataW H) → Bool := fun _ ds => decide (uptoBulkAll ds ≤ 1048576)
def OpenSpec.upto (s : _root_.Go.ChangeSpec) : _root_.Go.OpenSpec := { _root_.Go.OpenSpec.ofChange s with cond := some uptoSmall }

/-- 'limnerlaw06.PathFlats', WHERE WHAT IT READS IS OF BULK AT MOST 1048576: true; the input reads as it did. -/
def pathFlatsUptoRow : OpenClaim := { program := "ytpleidpbapgmiaadoor", sum := "90a59cb29c446bb54a1c0f3a48414bbab6fb52f894a5803d478baa084f5172f5", func := "limner/limnerlaw06.PathFlats", spec := "pathFlats", unfollowed := true, recurses := true, named := ["limner/path.needs"], apart := false, laid := [("limner/path.needs", laid_limner_path_needs)], narrowed := true }
def PathFlatsUptoSaid : Prop := pathFlatsUptoRow.holds Tryd.pinned (OpenSpec.upto pathFlatsSpec)

/-- 'limnerlaw06.PathChecks', WHERE WHAT IT READS IS OF BULK AT MOST 1048576: true; the input reads as it did. -/
def pathChecksUptoRow : OpenClaim := { program := "ytpleidpbapgmiaadoor", sum := "90a59cb29c446bb54a1c0f3a48414bbab6fb52f894a5803d478baa084f5172f5", func := "limner/limnerlaw06.PathChecks", spec := "pathChecks", unfollowed := true, recurses := true, named := ["limner/path.needs"], apart := false, laid := [("limner/path.needs", laid_limner_path_needs)], narrowed := true }
def PathChecksUptoSaid : Prop := pathChecksUptoRow.holds Tryd.pinned (OpenSpec.upto pathChecksSpec)

/-- 'limnerlaw06.PathSplits', WHERE WHAT IT READS IS OF BULK AT MOST 1048576: true; the input reads as it did. -/
def pathSplitsUptoRow : OpenClaim := { program := "ytpleidpbapgmiaadoor", sum := "90a59cb29c446bb54a1c0f3a48414bbab6fb52f894a5803d478baa084f5172f5", func := "limner/limnerlaw06.PathSplits", spec := "pathSplits", unfollowed := true, recurses := true, named := ["limner/path.needs"], apart := false, laid := [("limner/path.needs", laid_limner_path_needs)], narrowed := true }
def PathSplitsUptoSaid : Prop := pathSplitsUptoRow.holds Tryd.pinned (OpenSpec.upto pathSplitsSpec)

/-- 'limnerlaw06.PathApplies', WHERE WHAT IT READS IS OF BULK AT MOST 1048576: true; the input reads as it did. -/
def pathAppliesUptoRow : OpenClaim := { program := "ytpleidpbapgmiaadoor", sum := "90a59cb29c446bb54a1c0f3a48414bbab6fb52f894a5803d478baa084f5172f5", func := "limner/limnerlaw06.PathApplies", spec := "pathApplies", unfollowed := true, recurses := true, named := ["limner/path.needs"], apart := false, laid := [("limner/path.needs", laid_limner_path_needs)], narrowed := true }
def PathAppliesUptoSaid : Prop := pathAppliesUptoRow.holds Tryd.pinned (OpenSpec.upto pathAppliesSpec)

/-- 'limnerlaw06.PathEdits', WHERE WHAT IT READS IS OF BULK AT MOST 1048576: true; the input reads as it did. -/
def pathEditsUptoRow : OpenClaim := { program := "ytpleidpbapgmiaadoor", sum := "90a59cb29c446bb54a1c0f3a48414bbab6fb52f894a5803d478baa084f5172f5", func := "limner/limnerlaw06.PathEdits", spec := "pathEdits", unfollowed := true, recurses := true, named := ["limner/path.needs"], apart := false, laid := [("limner/path.needs", laid_limner_path_needs)], narrowed := true }
def PathEditsUptoSaid : Prop := pathEditsUptoRow.holds Tryd.pinned (OpenSpec.upto pathEditsSpec)

/-- 'limnerlaw06.PathBack', WHERE WHAT IT READS IS OF BULK AT MOST 1048576: true; the input reads as it did. -/
def pathBackUptoRow : OpenClaim := { program := "ytpleidpbapgmiaadoor", sum := "90a59cb29c446bb54a1c0f3a48414bbab6fb52f894a5803d478baa084f5172f5", func := "limner/limnerlaw06.PathBack", spec := "pathBack", unfollowed := true, recurses := true, named := ["limner/path.needs"], apart := false, laid := [("limner/path.needs", laid_limner_path_needs)], narrowed := true }
def PathBackUptoSaid : Prop := pathBackUptoRow.holds Tryd.pinned (OpenSpec.upto pathBackSpec)

end Rows
end Go.Proofs.YtpleidpbapgmiaaDoor
