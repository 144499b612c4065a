/- The row PathFlats. Conditions: those that each theorem names. -/
import Derived.Test.YtpleidpbapgmiaaDoorPfF
import Derived.Test.YtpleidpbapgmiaaDoorPaF
namespace Go.Proofs.YtpleidpbapgmiaaDoor.Sy
open Go Go.Proofs
open Go.RowKit Go.ChangeShapes Go.WideShapes Go.Deep
set_option linter.unusedVariables false

theorem rowL3 (hmix : Tryd.prog.follows .mixedOrders = true) (W : World) (ht : 0 < W.heap.size ∧ ∀ j v, needV[j]? = some v → W.cell? ⟨0, j, none⟩ = some (.int .i64 v)) (v : Value) (hv : SlOk W sgK v)
    (k : Int) (hk : IntKind.i64.min ≤ k ∧ k ≤ IntKind.i64.max) :
    Calls Tryd.prog 3 #[v, .int .i64 k] W (fun e w' => e = .returned (.bool true) ∧ Go.RowKit.Below W.heap.size W w') := by
  obtain ⟨ρ, m, c, l, hm, hh, hg, hr, h0, hc⟩ := path_lay ht hv
  exact law_callsW (ng := 1) (ρ := ρ) (n := 2) hWA hmix TA_ok (law3 (.one c) l k m 2 hr (by omega) false h0) hm hg
    ⟨_, _, rfl, hc, _, _, rfl, ⟨rfl, rfl⟩, rfl⟩ hh
end Go.Proofs.YtpleidpbapgmiaaDoor.Sy
