/- GeomSides' pure statement: three points' side is the reference's, turned round it is turned. Conditions: none. -/
import Derived.Test.YtfhjndnempmcaaaXx0
import Derived.Test.YtfhjndnempmcaaaXx11
import Derived.Test.YtfhjndnempmcaaaXx12
import Derived.Test.YtfhjndnempmcaaaPRef3
import Derived.Test.YtfhjndnempmcaaaPAwake3
namespace Go.Proofs.Ytfhjndnempmcaaa.Pure
open Go.RowKit Go.Proofs.YtfhjndnempmcaaaW.PrintWords Go.Proofs.Ytfhjndnempmcaaa.X Go.Proofs.Ytfhjndnempmcaaa.PNum Go.Proofs.Ytfhjndnempmcaaa.PWide Go.Proofs.Ytfhjndnempmcaaa.PGeo Go.Proofs.Ytfhjndnempmcaaa.PSide Go.Proofs.Ytfhjndnempmcaaa.PRef3 Go.Proofs.Ytfhjndnempmcaaa.PAwake3

theorem pointIn (a b : Int) : geom_Point_In.f a b = some (inR (a, b)) := by
  unfold geom_Point_In.f
  rw [fixedIn, fixedIn]
  simp only [Option.bind_some]
  unfold inR
  by_cases c : -2147483648 ≤ a ∧ a ≤ 2147483648
  · rw [if_pos (by simpa using c), decide_eq_true c, Bool.true_and]
  · rw [if_neg (by simpa using c), decide_eq_false c, Bool.false_and]
theorem GeomSides : limnerlaw03_GeomSides.Pure := by
  intro ax ay bx b_y cx cy _ _ _
  refine Ev.rounds ?_
  unfold limnerlaw03_GeomSides.f
  refine evSome (pointIn ..) (Ev.bind (inEv _ (by simp)) ?_)
  have e : (pts [(⟨ax, ay⟩ : S24)]).all inR = inR (ax, ay) := by simp [pts, pt24]
  rw [e]
  refine evNeg (by simp) (Ev.bind (inEv _ (by simp)) ?_)
  by_cases c : (pts [(⟨ax, ay⟩ : S24), (⟨bx, b_y⟩ : S24), (⟨cx, cy⟩ : S24)]).all inR = true
  · have ha := all_in c ⟨ax, ay⟩ (by simp)
    have hb := all_in c ⟨bx, b_y⟩ (by simp)
    have hc := all_in c ⟨cx, cy⟩ (by simp)
    refine evPos c ?_
    refine Ev.bind (sideEv ax ay bx b_y cx cy ha hb hc) ?_
    refine evSome (refEq ..) (evSome (refEq ..) (evSome (refEq ..) ?_))
    refine Ev.bind (refSideEv ax ay bx b_y cx cy ha hb hc) (evPos rfl ?_)
    have hw : wrap64 (-sgn (cr (ax, ay) (bx, b_y) (cx, cy))) = -sgn (cr (ax, ay) (bx, b_y) (cx, cy)) := by have := sgn_bd (cr (ax, ay) (bx, b_y) (cx, cy)); unfold wrap64; omega
    refine Ev.bind (sideEv bx b_y ax ay cx cy hb ha hc) (evPos (by rw [hw, cr_swap, sgn_neg']) ?_)
    refine Ev.bind (sideEv bx b_y cx cy ax ay hb hc ha) (evPos (by rw [cr_turn]) ?_)
    refine Ev.bind (sideEv ax ay bx b_y ax ay ha hb ha) (evPos (by rw [cr_first]; rfl) ?_)
    refine Ev.bind (sideEv ax ay ax ay cx cy ha ha hc) (evPos (by rw [cr_same]; rfl) ?_)
    exact Ev.bind awakeEv (Ev.now _)
  · exact evNeg c (Ev.bind awakeEv (Ev.now _))
end Go.Proofs.Ytfhjndnempmcaaa.Pure
