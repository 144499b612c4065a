/- What the printed join of two matrices comes to, here and in the reference. Conditions: those that each theorem names. -/
import Derived.Test.YtkneefkhggacmaaXx10
import Derived.Test.YtkneefkhggacmaaXx12
import Derived.Test.YtkneefkhggacmaaXx7
import Derived.Test.YtkneefkhggacmaaPAff
namespace Go.Proofs.Ytkneefkhggacmaa.PThen
open Go.RowKit Go.Proofs.YtkneefkhggacmaaW.PrintWords Go.Proofs.Ytkneefkhggacmaa.X Go.Proofs.Ytkneefkhggacmaa.PNum Go.Proofs.Ytkneefkhggacmaa.PAff

abbrev V7 := Int × Int × Int × Int × Int × Int × Int
def thV (a b c d e f a2 b2 c2 d2 e2 f2 : Int) : V7 :=
  if rightB a b c d e f = true then
    (if (apV a2 b2 c2 d2 e2 f2 e f).2.2 = 0 then
      (if rightB (rn (a2 * a + c2 * b)) (rn (b2 * a + d2 * b)) (rn (a2 * c + c2 * d)) (rn (b2 * c + d2 * d)) (apV a2 b2 c2 d2 e2 f2 e f).1 (apV a2 b2 c2 d2 e2 f2 e f).2.1 = true then
        (rn (a2 * a + c2 * b), rn (b2 * a + d2 * b), rn (a2 * c + c2 * d), rn (b2 * c + d2 * d), (apV a2 b2 c2 d2 e2 f2 e f).1, (apV a2 b2 c2 d2 e2 f2 e f).2.1, 0)
      else (0, 0, 0, 0, 0, 0, 10))
    else (0, 0, 0, 0, 0, 0, (apV a2 b2 c2 d2 e2 f2 e f).2.2))
  else (0, 0, 0, 0, 0, 0, 10)
theorem apV_ok {a b c d e f x y : Int} (h : (apV a b c d e f x y).2.2 = 0) : rightB a b c d e f = true ∧ inB x y = true ∧ inB (rn (a * x + c * y) + e) (rn (b * x + d * y) + f) = true ∧ apV a b c d e f x y = (rn (a * x + c * y) + e, rn (b * x + d * y) + f, 0) := by
  unfold apV at h ⊢
  split at h
  · rename_i h1
    split at h
    · rename_i h2
      exact ⟨h1.1, h1.2, h2, by rw [if_pos h1, if_pos h2]⟩
    · simp at h
  · simp at h
theorem apV_err {a b c d e f x y : Int} (h : ¬ (apV a b c d e f x y).2.2 = 0) : apV a b c d e f x y = (0, 0, 10) := by
  unfold apV at h ⊢
  split
  · split
    · rename_i h1 h2
      rw [if_pos h1, if_pos h2] at h
      exact absurd rfl h
    · rfl
  · rfl
theorem thenEv (a b c d e f a2 b2 c2 d2 e2 f2 : Int) : Ev (fun k => affine_Matrix_Then.f k a b c d e f a2 b2 c2 d2 e2 f2) (thV a b c d e f a2 b2 c2 d2 e2 f2) := by
  unfold affine_Matrix_Then.f
  refine evSome (rightEq ..) ?_
  by_cases h1 : rightB a b c d e f = true
  · refine evPos h1 (Ev.bind (applyEv ..) ?_)
    obtain ⟨ha, hb, hc, hd, he, hf⟩ := rightE h1
    by_cases h2 : (apV a2 b2 c2 d2 e2 f2 e f).2.2 = 0
    · obtain ⟨h3, _⟩ := apV_ok h2
      obtain ⟨ka, kb, kc, kd, _, _⟩ := rightE h3
      refine evPos h2 (evSome (mixEq ka (e24_r31 ha) kc (e24_r31 hb)) (evSome (mixEq kb (e24_r31 ha) kd (e24_r31 hb)) (evSome (mixEq ka (e24_r31 hc) kc (e24_r31 hd)) (evSome (mixEq kb (e24_r31 hc) kd (e24_r31 hd)) (evSome (rightEq ..) ?_)))))
      by_cases h4 : rightB (rn (a2 * a + c2 * b)) (rn (b2 * a + d2 * b)) (rn (a2 * c + c2 * d)) (rn (b2 * c + d2 * d)) (apV a2 b2 c2 d2 e2 f2 e f).1 (apV a2 b2 c2 d2 e2 f2 e f).2.1 = true
      · exact evPos h4 (evEq (Ev.now _) (by unfold thV; rw [if_pos h1, if_pos h2, if_pos h4]))
      · exact evNeg h4 (evEq (Ev.now _) (by unfold thV; rw [if_pos h1, if_pos h2, if_neg h4]))
    · exact evNeg h2 (evEq (Ev.now _) (by unfold thV; rw [if_pos h1, if_neg h2]))
  · exact evNeg h1 (evEq (Ev.now _) (by unfold thV; rw [if_neg h1]))
/-- A product pair of entries, as the reference takes it. -/
theorem pairEq {a x c y : Int} (ha : E24 a) (hx : E24 x) (hc : E24 c) (hy : E24 y) : limnerref01_Round.f (wrap64 ((wrap64 (a * x)) + (wrap64 (c * y)))) 65536 = some (rn (a * x + c * y)) := by
  have p1 := mulb (b := 16777216) (c := 16777216) ha.1 ha.2 hx.1 hx.2
  have p2 := mulb (b := 16777216) (c := 16777216) hc.1 hc.2 hy.1 hy.2
  rw [w64' (n := a * x) (by omega) (by omega), w64' (n := c * y) (by omega) (by omega), w64' (n := a * x + c * y) (by omega) (by omega)]
  exact roundEq (by omega)
theorem refThenEq {a b c d e f a2 b2 c2 d2 e2 f2 : Int} (h1 : rightB a b c d e f = true) (h2 : rightB a2 b2 c2 d2 e2 f2 = true) :
    limnerref04_Then.f a b c d e f a2 b2 c2 d2 e2 f2 = some (rn (a2 * a + c2 * b), rn (b2 * a + d2 * b), rn (a2 * c + c2 * d), rn (b2 * c + d2 * d), rn (a2 * e + c2 * f) + e2, rn (b2 * e + d2 * f) + f2,
      inB (rn (a2 * e + c2 * f) + e2) (rn (b2 * e + d2 * f) + f2) && rightB (rn (a2 * a + c2 * b)) (rn (b2 * a + d2 * b)) (rn (a2 * c + c2 * d)) (rn (b2 * c + d2 * d)) (rn (a2 * e + c2 * f) + e2) (rn (b2 * e + d2 * f) + f2)) := by
  obtain ⟨ha, hb, hc, hd, he, hf⟩ := rightE h1
  obtain ⟨ka, kb, kc, kd, _, _⟩ := rightE h2
  unfold limnerref04_Then.f
  rw [pairEq ka ha kc hb, pairEq kb ha kd hb, pairEq ka hc kc hd, pairEq kb hc kd hd, refApplyEq h2 (by unfold inB; exact decide_eq_true ⟨he, hf⟩)]
  simp only [Option.bind_some]
  by_cases h3 : inB (rn (a2 * e + c2 * f) + e2) (rn (b2 * e + d2 * f) + f2) = true
  · rw [if_pos h3, refRightEq, h3]
    rfl
  · rw [if_neg h3]
    simp only [Bool.not_eq_true] at h3
    rw [h3]
    rfl
end Go.Proofs.Ytkneefkhggacmaa.PThen
