/- Plain numbers: floors. Conditions: those that each theorem names. -/
import Derived.Test.YtffhhgcgnillaaaWdN
namespace Go.Proofs.Ytffhhgcgnillaaa.Sy
open Go Go.RowKit

theorem tdiv_tmod {X D : Int} (hD : 0 < D) : (0 ≤ X ∧ X.tdiv D = X / D ∧ X.tmod D = X % D) ∨ (X < 0 ∧ X.tmod D = 0 ∧ X.tdiv D = X / D) ∨ (X < 0 ∧ X.tmod D < 0 ∧ X.tdiv D = X / D + 1) := by
  rcases Int.lt_or_le X 0 with h | h
  · have e1 : X.tdiv D = -((-X) / D) := by
      have : X = -(-X) := by omega
      rw [this, Int.neg_tdiv, Int.tdiv_eq_ediv_of_nonneg (by omega)]
      simp
    have e2 := Int.mul_tdiv_add_tmod X D
    have e3 := Int.mul_ediv_add_emod (-X) D
    have e4 := Int.emod_nonneg (-X) (Int.ne_of_gt hD)
    have e5 := Int.emod_lt_of_pos (-X) hD
    have e6 := Int.mul_ediv_add_emod X D
    have e7 := Int.emod_nonneg X (Int.ne_of_gt hD)
    have e8 := Int.emod_lt_of_pos X hD
    rw [e1, Int.mul_neg] at e2
    rw [e1]
    generalize (-X) / D = q at *
    generalize (-X) % D = r at *
    by_cases c : r = 0
    · refine Or.inr (Or.inl ⟨h, by omega, ?_⟩)
      have h3 : X = D * (-q) := by rw [Int.mul_neg]; omega
      rw [h3, Int.mul_ediv_cancel_left _ (Int.ne_of_gt hD)]
    · refine Or.inr (Or.inr ⟨h, by omega, ?_⟩)
      have h3 : X = (D - r) + D * (-q - 1) := by rw [Int.mul_sub, Int.mul_neg]; omega
      rw [h3, Int.add_mul_ediv_left _ _ (Int.ne_of_gt hD), Int.ediv_eq_zero_of_lt (by omega) (by omega)]
      omega
  · exact Or.inl ⟨h, Int.tdiv_eq_ediv_of_nonneg h, Int.tmod_eq_emod_of_nonneg h⟩
theorem tdiv_floor {X D : Int} (hD : 0 < D) : (if X.tmod D < 0 then X.tdiv D - 1 else X.tdiv D) = X / D := by
  have := Int.emod_nonneg X (Int.ne_of_gt hD)
  rcases tdiv_tmod (X := X) hD with ⟨h1, h2, h3⟩ | ⟨h1, h2, h3⟩ | ⟨h1, h2, h3⟩
  · rw [if_neg (by omega), h2]
  · rw [if_neg (by omega), h3]
  · rw [if_pos h2, h3]; omega
theorem below_floor {X D : Int} (hD : 0 < D) : (if X < X.tdiv D * D then X.tdiv D - 1 else X.tdiv D) = X / D := by
  have e1 := Int.mul_ediv_add_emod X D
  have e2 := Int.emod_nonneg X (Int.ne_of_gt hD)
  have e3 := Int.emod_lt_of_pos X hD
  have e4 := Int.mul_tdiv_add_tmod X D
  rcases tdiv_tmod (X := X) hD with ⟨h1, h2, h3⟩ | ⟨h1, h2, h3⟩ | ⟨h1, h2, h3⟩
  · rw [h2, if_neg (by rw [Int.mul_comm]; omega)]
  · rw [h3, if_neg (by rw [Int.mul_comm]; omega)]
  · rw [if_pos (by rw [Int.mul_comm]; omega), h3]; omega
/-- A quotient, rounded. -/
def rnd (x d : Int) : Int := (2 * x + d) / (2 * d)
theorem rnd_eq {x d : Int} (hd : 0 < d) : rnd x d = if d - (x - x / d * d) ≤ x - x / d * d then x / d + 1 else x / d := by
  unfold rnd
  have e1 := Int.mul_ediv_add_emod x d
  have e2 := Int.emod_nonneg x (Int.ne_of_gt hd)
  have e3 := Int.emod_lt_of_pos x hd
  have e4 : x - x / d * d = x % d := by rw [Int.mul_comm]; omega
  rw [e4]
  generalize x % d = r at *
  have e5 : 2 * x + d = (2 * r + d) + 2 * d * (x / d) := by rw [Int.mul_assoc]; omega
  rw [e5, Int.add_mul_ediv_left _ _ (by omega)]
  split
  · have : (2 * r + d) / (2 * d) = 1 := by
      rw [show 2 * r + d = (2 * r - d) + 2 * d * 1 by omega, Int.add_mul_ediv_left _ _ (by omega), Int.ediv_eq_zero_of_lt (by omega) (by omega)]
      rfl
    omega
  · have : (2 * r + d) / (2 * d) = 0 := Int.ediv_eq_zero_of_lt (by omega) (by omega)
    omega
theorem rnd_le {x d b : Int} (hd : 0 < d) (h : x ≤ b * d) : rnd x d ≤ b := by
  unfold rnd
  have : (2 * x + d) / (2 * d) < b + 1 := Int.ediv_lt_of_lt_mul (by omega) (by rw [Int.add_mul, Int.one_mul, Int.mul_left_comm]; omega)
  omega
theorem rnd_ge {x d b : Int} (hd : 0 < d) (h : b * d ≤ x) : b ≤ rnd x d := by
  unfold rnd
  exact Int.le_ediv_of_mul_le (by omega) (by rw [Int.mul_left_comm]; omega)
end Go.Proofs.Ytffhhgcgnillaaa.Sy
