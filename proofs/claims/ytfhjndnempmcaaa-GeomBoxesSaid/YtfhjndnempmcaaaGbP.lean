/- Boxes (chapter 03): the plain law of GeomBoxes. Conditions: those that each theorem names. -/
import Derived.Test.YtfhjndnempmcaaaGbB
namespace Go.Proofs.Ytfhjndnempmcaaa.Sy
open Go Go.Proofs
set_option linter.unusedSimpArgs false
set_option linter.unusedVariables false

theorem has_iff {b : Bx} {p : Pt} : b.has p = true ↔ (b.x0 ≤ p.x ∧ p.x < b.x1) ∧ b.y0 ≤ p.y ∧ p.y < b.y1 := by
  simp [Bx.has, and_assoc]
theorem emp_iff {b : Bx} : b.emp = true ↔ b.x1 ≤ b.x0 ∨ b.y1 ≤ b.y0 := by simp [Bx.emp]
theorem mn_comm (a b : Int) : mnI a b = mnI b a := by unfold mnI; split <;> split <;> omega
theorem mx_comm (a b : Int) : mxI a b = mxI b a := by unfold mxI; split <;> split <;> omega
theorem meet_comm (b c : Bx) : b.meet c = c.meet b := by
  have : b.both c = c.both b := by
    unfold Bx.both
    rw [mx_comm b.x0, mx_comm b.y0, mn_comm b.x1, mn_comm b.y1]
  unfold Bx.meet
  rw [this]
theorem join_comm (b c : Bx) : b.join c = c.join b := by
  unfold Bx.join
  cases hb : b.emp <;> cases hc : c.emp <;> simp only [Bool.false_eq_true, false_and, and_false, and_self, if_false, if_true]
  rw [mn_comm b.x0, mn_comm b.y0, mx_comm b.x1, mx_comm b.y1]
theorem meet_has (b c : Bx) (p : Pt) : (b.meet c).has p = (b.has p && c.has p) := by
  rw [Bool.eq_iff_iff, Bool.and_eq_true, has_iff, has_iff, has_iff]
  unfold Bx.meet
  split
  · rename_i h
    rw [emp_iff] at h
    simp only [Bx.both, mnI, mxI] at h ⊢
    repeat' split at h
    all_goals omega
  · simp only [Bx.both, mnI, mxI]
    repeat' split
    all_goals omega
theorem meet_emp {b c : Bx} (h : (b.meet c).emp = true) : b.meet c = ⟨0, 0, 0, 0⟩ := by
  unfold Bx.meet at h ⊢
  split
  · rfl
  · rename_i h2
    rw [if_neg h2] at h
    exact absurd h h2
theorem join_has {b c : Bx} {p : Pt} (h : b.has p = true ∨ c.has p = true) : (b.join c).has p = true := by
  have he : ∀ {d : Bx}, d.has p = true → ¬ (d.emp = true) := fun {d} h1 h2 => by
    rw [has_iff] at h1
    rw [emp_iff] at h2
    omega
  unfold Bx.join
  rcases h with h | h
  · have := he h
    rw [if_neg (fun x => this x.1), if_neg this]
    split
    · exact h
    · rw [has_iff] at h ⊢
      simp only [mnI, mxI]
      repeat' split
      all_goals omega
  · have := he h
    rw [if_neg (fun x => this x.2)]
    split
    · exact h
    · rw [has_iff] at h ⊢
      simp only [mnI, mxI]
      repeat' split
      all_goals omega
end Go.Proofs.Ytfhjndnempmcaaa.Sy
