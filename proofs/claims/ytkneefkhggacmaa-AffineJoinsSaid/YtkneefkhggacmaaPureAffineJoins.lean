/- AffineJoins' pure statement: two matrices, one behind the other, are the one that the reference tells, or refused. Conditions: none. -/
import Derived.Test.YtkneefkhggacmaaXx13
import Derived.Test.YtkneefkhggacmaaPThen
namespace Go.Proofs.Ytkneefkhggacmaa.Pure
open Go.RowKit Go.Proofs.YtkneefkhggacmaaW.PrintWords Go.Proofs.Ytkneefkhggacmaa.X Go.Proofs.Ytkneefkhggacmaa.PNum Go.Proofs.Ytkneefkhggacmaa.PAff Go.Proofs.Ytkneefkhggacmaa.PThen

theorem AffineJoins : limnerlaw04_AffineJoins.Pure := by
  intro a b c d e f a2 b2 c2 d2 e2 f2 _ _
  refine Ev.rounds ?_
  unfold limnerlaw04_AffineJoins.f
  refine Ev.bind (thenEv ..) (evSome (refEq ..) (evSome (refRightEq ..) ?_))
  have no : ∀ (b3 : Bool) (v : V7), b3 = false → v = (0, 0, 0, 0, 0, 0, 10) → Ev (fun k => limnerlaw04_AffineJoins.j0 k v.2.2.2.2.2.2 b3 a b c d e f a2 b2 c2 d2 e2 f2 v.1 v.2.1 v.2.2.1 v.2.2.2.1 v.2.2.2.2.1 v.2.2.2.2.2.1) true := by
    intro b3 v hb hv
    subst hb hv
    exact Ev.step (fun _ => limnerlaw04_AffineJoins.j0.eq_2 ..) (evNeg (by simp) (evPos rfl (evPos (by decide) (Ev.bind awakeEv (Ev.now _)))))
  by_cases h1 : rightB a b c d e f = true
  · refine evPos h1 (evSome (refEq ..) (evSome (refRightEq ..) ?_))
    have hin : inB e f = true := by obtain ⟨_, _, _, _, he, hf⟩ := rightE h1; unfold inB; exact decide_eq_true ⟨he, hf⟩
    by_cases h2 : rightB a2 b2 c2 d2 e2 f2 = true
    · rw [h2]
      refine Ev.step (fun _ => limnerlaw04_AffineJoins.j0.eq_2 ..) (evPos rfl (evSome (refEq ..) (evSome (refEq ..) (evSome (refThenEq h1 h2) ?_))))
      by_cases h3 : inB (rn (a2 * e + c2 * f) + e2) (rn (b2 * e + d2 * f) + f2) = true
      · have hv : apV a2 b2 c2 d2 e2 f2 e f = (rn (a2 * e + c2 * f) + e2, rn (b2 * e + d2 * f) + f2, 0) := by
          unfold apV
          rw [if_pos ⟨h2, hin⟩, if_pos h3]
        by_cases h4 : rightB (rn (a2 * a + c2 * b)) (rn (b2 * a + d2 * b)) (rn (a2 * c + c2 * d)) (rn (b2 * c + d2 * d)) (rn (a2 * e + c2 * f) + e2) (rn (b2 * e + d2 * f) + f2) = true
        · have ht : thV a b c d e f a2 b2 c2 d2 e2 f2 = (rn (a2 * a + c2 * b), rn (b2 * a + d2 * b), rn (a2 * c + c2 * d), rn (b2 * c + d2 * d), rn (a2 * e + c2 * f) + e2, rn (b2 * e + d2 * f) + f2, 0) := by
            unfold thV
            rw [hv, if_pos h1, if_pos rfl, if_pos h4]
          rw [ht]
          exact evPos (by simp [h3, h4]) (evPos rfl (evSome (refEq ..) (evPos (by simp) (Ev.bind awakeEv (Ev.now _)))))
        · have ht : thV a b c d e f a2 b2 c2 d2 e2 f2 = (0, 0, 0, 0, 0, 0, 10) := by
            unfold thV
            rw [hv, if_pos h1, if_pos rfl, if_neg h4]
          rw [ht]
          exact evNeg (by simp [h4]) (evPos rfl (evPos (by decide) (Ev.bind awakeEv (Ev.now _))))
      · have hv : apV a2 b2 c2 d2 e2 f2 e f = (0, 0, 10) := by
          unfold apV
          rw [if_pos ⟨h2, hin⟩, if_neg h3]
        have ht : thV a b c d e f a2 b2 c2 d2 e2 f2 = (0, 0, 0, 0, 0, 0, 10) := by
          unfold thV
          rw [hv, if_pos h1, if_neg (by decide)]
        rw [ht]
        exact evNeg (by simp [h3]) (evPos rfl (evPos (by decide) (Ev.bind awakeEv (Ev.now _))))
    · refine no _ _ (by simpa using h2) ?_
      have hv : apV a2 b2 c2 d2 e2 f2 e f = (0, 0, 10) := if_neg (fun h => h2 h.1)
      unfold thV
      rw [hv, if_pos h1, if_neg (by decide)]
  · exact evNeg h1 (no _ _ rfl (if_neg h1))
end Go.Proofs.Ytkneefkhggacmaa.Pure
