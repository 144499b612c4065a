/- The row PathBack. Conditions: those that each theorem names. -/
import Derived.Test.YtpleidpbapgmiaaDoorPaQ
import Derived.Test.YtpleidpbapgmiaaDoorPaP
namespace Go.Proofs.YtpleidpbapgmiaaDoor.Sy
open Go Go.Proofs
open Go.RowKit Go.ChangeShapes Go.WideShapes Go.Deep
set_option linter.unusedVariables false

theorem rowL8 (hmix : Tryd.prog.follows .mixedOrders = true) (W : World) (ht : 0 < W.heap.size ∧ ∀ j v, needV[j]? = some v → W.cell? ⟨0, j, none⟩ = some (.int .i64 v)) (v : Value)
    (hv : ∃ (c : Value) (i k q0 q1 q2 q3 q4 q5 q6 x y : Int), v = .agg #[c, .int .i64 i, .int .i64 k, .int .i64 q0, .int .i64 q1, .int .i64 q2, .int .i64 q3, .int .i64 q4, .int .i64 q5, .int .i64 q6, .int .i64 x, .int .i64 y] ∧ SlOk W sgK c) :
    Calls Tryd.prog 8 #[v] W (fun e w' => e = .returned (.bool true) ∧ Go.RowKit.Below W.heap.size W w') :=
  row_edit (fun c l i k s p m n h1 h2 h3 o h4 => law8 c l i k s p m n h1 h2 h3 o h4) hmix W ht v hv
end Go.Proofs.YtpleidpbapgmiaaDoor.Sy
