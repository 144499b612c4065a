/- AffineApplies' pure statement: any matrix makes of any point what the reference says, or refuses. Conditions: none. -/
import Derived.Test.YtkneefkhggacmaaXx9
import Derived.Test.YtkneefkhggacmaaPAff
namespace Go.Proofs.Ytkneefkhggacmaa.Pure
open Go.RowKit Go.Proofs.YtkneefkhggacmaaW.PrintWords Go.Proofs.Ytkneefkhggacmaa.X Go.Proofs.Ytkneefkhggacmaa.PNum Go.Proofs.Ytkneefkhggacmaa.PAff

theorem AffineApplies : limnerlaw04_AffineApplies.Pure := by
  intro a b c d e f x y _ _
  refine Ev.rounds ?_
  unfold limnerlaw04_AffineApplies.f
  refine Ev.bind (applyEv ..) (evSome (refEq ..) (evSome (refRightEq ..) (evSome (rightEq ..) (evNeg (by simp) ?_))))
  have no : ∀ b2 : Bool, b2 = false → apV a b c d e f x y = (0, 0, 10) → Ev (fun k => limnerlaw04_AffineApplies.j0 k (apV a b c d e f x y).2.2 b2 a b c d e f x y (apV a b c d e f x y).1 (apV a b c d e f x y).2.1) true := by
    intro b2 hb hv
    subst hb
    rw [hv]
    exact Ev.step (fun _ => limnerlaw04_AffineApplies.j0.eq_2 ..) (evNeg (by simp) (evPos rfl (evPos (by decide) (Ev.bind awakeEv (Ev.now _)))))
  by_cases h1 : rightB a b c d e f = true
  · refine evPos h1 (evSome (lawIn ..) ?_)
    by_cases h2 : inB x y = true
    · rw [h2]
      refine Ev.step (fun _ => limnerlaw04_AffineApplies.j0.eq_2 ..) (evPos rfl (evSome (refEq ..) (evSome (refApplyEq h1 h2) ?_)))
      have hv : apV a b c d e f x y = if inB (rn (a * x + c * y) + e) (rn (b * x + d * y) + f) = true then (rn (a * x + c * y) + e, rn (b * x + d * y) + f, 0) else (0, 0, 10) := if_pos ⟨h1, h2⟩
      by_cases h3 : inB (rn (a * x + c * y) + e) (rn (b * x + d * y) + f) = true
      · rw [if_pos h3] at hv
        rw [hv]
        exact evPos h3 (evPos rfl (evPos (by simp) (Ev.bind awakeEv (Ev.now _))))
      · rw [if_neg h3] at hv
        rw [hv]
        exact evNeg h3 (evPos rfl (evPos (by decide) (Ev.bind awakeEv (Ev.now _))))
    · exact no _ (by simpa using h2) (if_neg (fun h => h2 h.2))
  · exact evNeg h1 (no _ rfl (if_neg (fun h => h1 h.1)))
end Go.Proofs.Ytkneefkhggacmaa.Pure
