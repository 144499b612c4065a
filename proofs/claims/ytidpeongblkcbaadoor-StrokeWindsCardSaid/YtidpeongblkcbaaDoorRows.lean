/-
  NARROWER THAN 'FOR EVERY INPUT', by the rows' own cells (each row's printed sentence says how): StrokeDiscs: laid · StrokePens: laid · StrokeBack: laid · StrokeWinds: laid · StrokeReach: laid.
  DERIVED. THE GIVEN ROWS OF THIS SEAT. 5 by the template 'for every input the law returns true; each argument reads behind the call as it read before'; 0 by the template 'total and deterministic' (their statements: YtidpeongblkcbaaDoorTotals.lean).
  GIVEN WITH THE SEED: the statements are not yours to turn. If you find one false, say at which input.
  Laid BY PROGRAM, IN A SANDBOX (cutbox-rows.mjs): the forced cells as the released guide's own fill.sh prints them over the translation 27d98188f2dde9a3… (all of the seat's roots in one cut). By AI agents, Wed Nov 11 2026. No macro, syntax, notation, axiom, sorry.
-/
import Derived.Test.YtidpeongblkcbaaDoorChecked
import GoSem.Claim
import GoSem.ClaimJoined
import GoSem.ClaimMapViews
import Derived.JoinedTies
import Derived.KernelRfl
namespace Go.Proofs.YtidpeongblkcbaaDoor
/- THE CELL 'sum', in the pinned program and in every row, IS THE sha256 OF THE DUMP (.gsa) THAT YtidpeongblkcbaaDoorProg.lean LOADS. Nothing in Lean hashes anything: it is a label: what it is worth is what the hold of that sum in a sandbox is worth. -/
noncomputable def Tryd.pinned : Pinned := { name := "ytidpeongblkcbaadoor", sum := "27d98188f2dde9a3377e2215c142a11d6345074c965c5bc716c3968bd8f273e2", checked := Tryd.checked }
namespace Rows
def none {H : Type} : Left H := { results := [], args := [] }

/- WHAT THE LISTED PACKAGE-LEVEL VARIABLES READ AS WHEN THE CALL BEGINS. Each datum BY PROGRAM (the guide's laid-datum.mjs) off the statement by which the dump's own 'gosem.cut.vars' lays the variable. In a bare row this is a premise. The card (YtidpeongblkcbaaDoorCards.lean) ties it to the program's text. -/
def laid_limner_stroke_cosines {H : Type} : DataW H := .agg [.lit (.int .i64 65536), .lit (.int .i64 60547), .lit (.int .i64 46341), .lit (.int .i64 25080), .lit (.int .i64 0), .lit (.int .i64 (-25080)), .lit (.int .i64 (-46341)), .lit (.int .i64 (-60547)), .lit (.int .i64 (-65536)), .lit (.int .i64 (-60547)), .lit (.int .i64 (-46341)), .lit (.int .i64 (-25080)), .lit (.int .i64 0), .lit (.int .i64 25080), .lit (.int .i64 46341), .lit (.int .i64 60547)]

/-- 'limnerlaw07.StrokeDiscs': WHATEVER THE INPUT: true; the input reads as it did. -/
def strokeDiscsSpec : ChangeSpec := { name := "strokeDiscs", fn := fun _ => fun
  | [d1, d2] => { results := [.lit (.bool true)], args := [d1, d2] }
  | _ => none }
def strokeDiscsRow : OpenClaim := { program := "ytidpeongblkcbaadoor", sum := "27d98188f2dde9a3377e2215c142a11d6345074c965c5bc716c3968bd8f273e2", func := "limner/limnerlaw07.StrokeDiscs", spec := "strokeDiscs", unfollowed := true, recurses := true, named := ["limner/stroke.cosines"], apart := false, laid := [("limner/stroke.cosines", laid_limner_stroke_cosines)] }
def StrokeDiscsSaid : Prop := strokeDiscsRow.holds Tryd.pinned (OpenSpec.ofChange strokeDiscsSpec)

/-- ITS FALSE NEIGHBOUR: 'it returns false'. Refute it at one input. -/
def strokeDiscsWrong : ChangeSpec := { name := "strokeDiscs", fn := fun _ => fun
  | [d1, d2] => { results := [.lit (.bool false)], args := [d1, d2] }
  | _ => none }
def StrokeDiscsWrongFalsely : Prop := strokeDiscsRow.holds Tryd.pinned (OpenSpec.ofChange strokeDiscsWrong)

/-- 'limnerlaw07.StrokePens': WHATEVER THE INPUT: true; the input reads as it did. -/
def strokePensSpec : ChangeSpec := { name := "strokePens", fn := fun _ => fun
  | [d1, d2, d3] => { results := [.lit (.bool true)], args := [d1, d2, d3] }
  | _ => none }
def strokePensRow : OpenClaim := { program := "ytidpeongblkcbaadoor", sum := "27d98188f2dde9a3377e2215c142a11d6345074c965c5bc716c3968bd8f273e2", func := "limner/limnerlaw07.StrokePens", spec := "strokePens", unfollowed := true, recurses := true, named := ["limner/stroke.cosines"], apart := false, laid := [("limner/stroke.cosines", laid_limner_stroke_cosines)] }
def StrokePensSaid : Prop := strokePensRow.holds Tryd.pinned (OpenSpec.ofChange strokePensSpec)

/-- ITS FALSE NEIGHBOUR: 'it returns false'. Refute it at one input. -/
def strokePensWrong : ChangeSpec := { name := "strokePens", fn := fun _ => fun
  | [d1, d2, d3] => { results := [.lit (.bool false)], args := [d1, d2, d3] }
  | _ => none }
def StrokePensWrongFalsely : Prop := strokePensRow.holds Tryd.pinned (OpenSpec.ofChange strokePensWrong)

/-- 'limnerlaw07.StrokeBack': WHATEVER THE INPUT: true; the input reads as it did. -/
def strokeBackSpec : ChangeSpec := { name := "strokeBack", fn := fun _ => fun
  | [d1, d2, d3] => { results := [.lit (.bool true)], args := [d1, d2, d3] }
  | _ => none }
def strokeBackRow : OpenClaim := { program := "ytidpeongblkcbaadoor", sum := "27d98188f2dde9a3377e2215c142a11d6345074c965c5bc716c3968bd8f273e2", func := "limner/limnerlaw07.StrokeBack", spec := "strokeBack", unfollowed := true, recurses := true, named := ["limner/stroke.cosines"], apart := false, laid := [("limner/stroke.cosines", laid_limner_stroke_cosines)] }
def StrokeBackSaid : Prop := strokeBackRow.holds Tryd.pinned (OpenSpec.ofChange strokeBackSpec)

/-- ITS FALSE NEIGHBOUR: 'it returns false'. Refute it at one input. -/
def strokeBackWrong : ChangeSpec := { name := "strokeBack", fn := fun _ => fun
  | [d1, d2, d3] => { results := [.lit (.bool false)], args := [d1, d2, d3] }
  | _ => none }
def StrokeBackWrongFalsely : Prop := strokeBackRow.holds Tryd.pinned (OpenSpec.ofChange strokeBackWrong)

/-- 'limnerlaw07.StrokeWinds': WHATEVER THE INPUT: true; the input reads as it did. -/
def strokeWindsSpec : ChangeSpec := { name := "strokeWinds", fn := fun _ => fun
  | [d1, d2, d3] => { results := [.lit (.bool true)], args := [d1, d2, d3] }
  | _ => none }
def strokeWindsRow : OpenClaim := { program := "ytidpeongblkcbaadoor", sum := "27d98188f2dde9a3377e2215c142a11d6345074c965c5bc716c3968bd8f273e2", func := "limner/limnerlaw07.StrokeWinds", spec := "strokeWinds", unfollowed := true, recurses := true, named := ["limner/stroke.cosines"], apart := false, laid := [("limner/stroke.cosines", laid_limner_stroke_cosines)] }
def StrokeWindsSaid : Prop := strokeWindsRow.holds Tryd.pinned (OpenSpec.ofChange strokeWindsSpec)

/-- ITS FALSE NEIGHBOUR: 'it returns false'. Refute it at one input. -/
def strokeWindsWrong : ChangeSpec := { name := "strokeWinds", fn := fun _ => fun
  | [d1, d2, d3] => { results := [.lit (.bool false)], args := [d1, d2, d3] }
  | _ => none }
def StrokeWindsWrongFalsely : Prop := strokeWindsRow.holds Tryd.pinned (OpenSpec.ofChange strokeWindsWrong)

/-- 'limnerlaw07.StrokeReach': WHATEVER THE INPUT: true; the input reads as it did. -/
def strokeReachSpec : ChangeSpec := { name := "strokeReach", fn := fun _ => fun
  | [d] => { results := [.lit (.bool true)], args := [d] }
  | _ => none }
def strokeReachRow : OpenClaim := { program := "ytidpeongblkcbaadoor", sum := "27d98188f2dde9a3377e2215c142a11d6345074c965c5bc716c3968bd8f273e2", func := "limner/limnerlaw07.StrokeReach", spec := "strokeReach", unfollowed := true, recurses := true, named := ["limner/stroke.cosines"], apart := false, laid := [("limner/stroke.cosines", laid_limner_stroke_cosines)] }
def StrokeReachSaid : Prop := strokeReachRow.holds Tryd.pinned (OpenSpec.ofChange strokeReachSpec)

/-- ITS FALSE NEIGHBOUR: 'it returns false'. Refute it at one input. -/
def strokeReachWrong : ChangeSpec := { name := "strokeReach", fn := fun _ => fun
  | [d] => { results := [.lit (.bool false)], args := [d] }
  | _ => none }
def StrokeReachWrongFalsely : Prop := strokeReachRow.holds Tryd.pinned (OpenSpec.ofChange strokeReachWrong)

/- THE SECOND FORM. 'bulk': how many values and letters a reading holds, each counted each time it is reached (what is shared counts as often as it is met; a slice's spare places count too). A statement '..UptoSaid' is the law's where the arguments, and the package variables that the reading takes, are together of bulk at most 1048576: NARROWER than '..Said'. Prove '..Said' where nothing that the law and all that it calls make is longer than what came in: it says more and counts as full. Else prove '..UptoSaid'. A law counts once. -/
mutual
def uptoBulk {H : Type} : DataW H → Nat
  | .lit (.string bytes) => bytes.length + 1
  | .lit _ => 1
  | .nil => 1
  | .ptr d => uptoBulk d + 1
  | .slice elems spare => uptoBulkAll elems + uptoBulkAll spare + 1
  | .agg parts => uptoBulkAll parts + 1
  | .iface _ d => uptoBulk d + 1
  | .map entries => uptoBulkEntries entries + 1
  | .held _ => 1
def uptoBulkAll {H : Type} : List (DataW H) → Nat
  | [] => 0
  | d :: r => uptoBulk d + uptoBulkAll r
def uptoBulkEntries {H : Type} : List (Lit × DataW H) → Nat
  | [] => 0
  | x :: r => uptoBulkEntry x + uptoBulkEntries r
def uptoBulkEntry {H : Type} : Lit × DataW H → Nat
  | (.string bytes, d) => bytes.length + uptoBulk d + 1
  | (_, d) => uptoBulk d + 1
 end
def uptoSmall : (H : Type) → List (DataW H) → Bool := fun _ ds => decide (uptoBulkAll ds ≤ 1048576)
def OpenSpec.upto (s : _root_.Go.ChangeSpec) : _root_.Go.OpenSpec := { _root_.Go.OpenSpec.ofChange s with cond := some uptoSmall }

/-- 'limnerlaw07.StrokeDiscs', WHERE WHAT IT READS IS OF BULK AT MOST 1048576: true; the input reads as it did. -/
def strokeDiscsUptoRow : OpenClaim := { program := "ytidpeongblkcbaadoor", sum := "27d98188f2dde9a3377e2215c142a11d6345074c965c5bc716c3968bd8f273e2", func := "limner/limnerlaw07.StrokeDiscs", spec := "strokeDiscs", unfollowed := true, recurses := true, named := ["limner/stroke.cosines"], apart := false, laid := [("limner/stroke.cosines", laid_limner_stroke_cosines)], narrowed := true }
def StrokeDiscsUptoSaid : Prop := strokeDiscsUptoRow.holds Tryd.pinned (OpenSpec.upto strokeDiscsSpec)

/-- 'limnerlaw07.StrokePens', WHERE WHAT IT READS IS OF BULK AT MOST 1048576: true; the input reads as it did. -/
def strokePensUptoRow : OpenClaim := { program := "ytidpeongblkcbaadoor", sum := "27d98188f2dde9a3377e2215c142a11d6345074c965c5bc716c3968bd8f273e2", func := "limner/limnerlaw07.StrokePens", spec := "strokePens", unfollowed := true, recurses := true, named := ["limner/stroke.cosines"], apart := false, laid := [("limner/stroke.cosines", laid_limner_stroke_cosines)], narrowed := true }
def StrokePensUptoSaid : Prop := strokePensUptoRow.holds Tryd.pinned (OpenSpec.upto strokePensSpec)

/-- 'limnerlaw07.StrokeBack', WHERE WHAT IT READS IS OF BULK AT MOST 1048576: true; the input reads as it did. -/
def strokeBackUptoRow : OpenClaim := { program := "ytidpeongblkcbaadoor", sum := "27d98188f2dde9a3377e2215c142a11d6345074c965c5bc716c3968bd8f273e2", func := "limner/limnerlaw07.StrokeBack", spec := "strokeBack", unfollowed := true, recurses := true, named := ["limner/stroke.cosines"], apart := false, laid := [("limner/stroke.cosines", laid_limner_stroke_cosines)], narrowed := true }
def StrokeBackUptoSaid : Prop := strokeBackUptoRow.holds Tryd.pinned (OpenSpec.upto strokeBackSpec)

/-- 'limnerlaw07.StrokeWinds', WHERE WHAT IT READS IS OF BULK AT MOST 1048576: true; the input reads as it did. -/
def strokeWindsUptoRow : OpenClaim := { program := "ytidpeongblkcbaadoor", sum := "27d98188f2dde9a3377e2215c142a11d6345074c965c5bc716c3968bd8f273e2", func := "limner/limnerlaw07.StrokeWinds", spec := "strokeWinds", unfollowed := true, recurses := true, named := ["limner/stroke.cosines"], apart := false, laid := [("limner/stroke.cosines", laid_limner_stroke_cosines)], narrowed := true }
def StrokeWindsUptoSaid : Prop := strokeWindsUptoRow.holds Tryd.pinned (OpenSpec.upto strokeWindsSpec)

/-- 'limnerlaw07.StrokeReach', WHERE WHAT IT READS IS OF BULK AT MOST 1048576: true; the input reads as it did. -/
def strokeReachUptoRow : OpenClaim := { program := "ytidpeongblkcbaadoor", sum := "27d98188f2dde9a3377e2215c142a11d6345074c965c5bc716c3968bd8f273e2", func := "limner/limnerlaw07.StrokeReach", spec := "strokeReach", unfollowed := true, recurses := true, named := ["limner/stroke.cosines"], apart := false, laid := [("limner/stroke.cosines", laid_limner_stroke_cosines)], narrowed := true }
def StrokeReachUptoSaid : Prop := strokeReachUptoRow.holds Tryd.pinned (OpenSpec.upto strokeReachSpec)

end Rows
end Go.Proofs.YtidpeongblkcbaaDoor
