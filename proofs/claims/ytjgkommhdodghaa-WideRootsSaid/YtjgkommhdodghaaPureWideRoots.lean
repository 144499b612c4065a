/- WideRoots' pure statement: the greatest root whose square is not above the number; of others 0. Conditions: none. -/
import Derived.Test.YtjgkommhdodghaaXx7
import Derived.Test.YtjgkommhdodghaaPSqrt
namespace Go.Proofs.Ytjgkommhdodghaa.Pure
open Go.RowKit Go.Proofs.YtjgkommhdodghaaW.PrintWords Go.Proofs.Ytjgkommhdodghaa.X Go.Proofs.Ytjgkommhdodghaa.PNum Go.Proofs.Ytjgkommhdodghaa.PMul Go.Proofs.Ytjgkommhdodghaa.PShift Go.Proofs.Ytjgkommhdodghaa.PMulDiv Go.Proofs.Ytjgkommhdodghaa.PCmp Go.Proofs.Ytjgkommhdodghaa.PSqrt

theorem WideRoots : limnerlaw02_WideRoots.Pure := by
  intro n hn
  have hn := wf64 hn
  refine Ev.rounds ?_
  unfold limnerlaw02_WideRoots.f
  obtain ⟨q, q0, q1, q2, q3, q4⟩ := sqrtEv hn
  refine Ev.bind q4 ?_
  by_cases c : n < 0
  · exact evPos c (evPos (q3 c) (Ev.bind awakeEv (Ev.now _)))
  obtain ⟨a1, a2⟩ := q2 (by omega)
  refine evNeg c (evPos q0 (evPos q1 (evSome (wideMul _ _ (by omega) (by omega) (by omega) (by omega)) (evSome (ofEq n hn.1 hn.2) (Ev.bind (wideCmp _ _) (evPos ?_ ?_))))))
  · have := sgn_bd (q * q - n)
    unfold sgn
    split <;> (try split) <;> omega
  rw [w64' (n := q + 1) (by omega) (by omega)]
  refine evSome (wideMul _ _ (by omega) (by omega) (by omega) (by omega)) (evSome (ofEq n hn.1 hn.2) (Ev.bind (wideCmp _ _) (evPos ?_ (Ev.bind awakeEv (Ev.now _)))))
  rw [sgn_pos (by omega)]
  decide
end Go.Proofs.Ytjgkommhdodghaa.Pure
