/- The row PathApplies. Conditions: those that each theorem names. -/
import Derived.Test.YtpleidpbapgmiaaDoorPaJ
import Derived.Test.YtpleidpbapgmiaaDoorPaF
namespace Go.Proofs.YtpleidpbapgmiaaDoor.Sy
open Go Go.Proofs
open Go.RowKit Go.ChangeShapes Go.WideShapes Go.Deep
set_option linter.unusedVariables false

theorem rowL6 (hmix : Tryd.prog.follows .mixedOrders = true) (W : World) (ht : 0 < W.heap.size ∧ ∀ j v, needV[j]? = some v → W.cell? ⟨0, j, none⟩ = some (.int .i64 v)) (v : Value) (hv : SlOk W sgK v)
    (l1 : List Value) (h1 : CksOk [.int .i64, .int .i64, .int .i64, .int .i64, .int .i64, .int .i64] l1) :
    Calls Tryd.prog 6 #[v, .agg l1.toArray] W (fun e w' => e = .returned (.bool true) ∧ Go.RowKit.Below W.heap.size W w') := by
  obtain ⟨ρ, m, c, l, hm, hh, hg, hr, h0, hc⟩ := path_lay ht hv
  have r0 := h1.rel (ρ := ρ) (n := 2) (w := W)
  obtain ⟨x0, _, rfl, _, x1, _, rfl, _, x2, _, rfl, _, x3, _, rfl, _, x4, _, rfl, _, x5, _, rfl, _, rfl⟩ := h1
  exact law_callsW (ng := 1) (ρ := ρ) (n := 2) hWA hmix TA_ok (law6 (.one c) l ⟨x0, x1, x2, x3, x4, x5⟩ m 2 hr (by omega) false h0) hm hg
    ⟨_, _, rfl, hc, _, _, rfl, ⟨_, rfl, r0⟩, rfl⟩ hh
end Go.Proofs.YtpleidpbapgmiaaDoor.Sy
