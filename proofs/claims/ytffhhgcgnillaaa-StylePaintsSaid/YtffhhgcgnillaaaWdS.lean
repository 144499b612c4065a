/- Plain numbers: what a shift over two words comes to. Conditions: those that each theorem names. -/
import Derived.Test.YtffhhgcgnillaaaWdN
namespace Go.Proofs.Ytffhhgcgnillaaa.Sy
open Go Go.RowKit

theorem or_comm (k : IntKind) (x y : Int) : Go.bits .or k x y = Go.bits .or k y x := by
  show k.wrap ((BitVec.ofInt k.bits x ||| BitVec.ofInt k.bits y).toNat : Int) = k.wrap ((BitVec.ofInt k.bits y ||| BitVec.ofInt k.bits x).toNat : Int)
  rw [BitVec.or_comm]
theorem wraps_u64 (n : Int) (h₀ : 0 ≤ n) (h₁ : n < 2 ^ 64) : IntKind.u64.wrap n = n := by
  have : (2 : Int) ^ 64 = 18446744073709551616 := by decide
  rw [wu64]; omega
theorem shrPart {p : Int} {k : Nat} (h0 : 0 < k) (h1 : k < 64) :
    Go.bits .or .u64 (p % 18446744073709551616 / 2 ^ k) (IntKind.u64.wrap (p / 18446744073709551616 % 18446744073709551616 * 2 ^ (64 - k))) = p / 2 ^ k % 18446744073709551616 := by
  have hk : (0 : Int) < 2 ^ k := Int.pow_pos (by decide)
  have hm : (0 : Int) < 2 ^ (64 - k) := Int.pow_pos (by decide)
  have hw : (2 : Int) ^ k * 2 ^ (64 - k) = 18446744073709551616 := by
    rw [← Int.pow_add, show k + (64 - k) = 64 by omega]; decide
  rw [or_comm, wu64]
  obtain ⟨K, eK⟩ : ∃ K : Int, K = 2 ^ k := ⟨_, rfl⟩
  obtain ⟨M, eM⟩ : ∃ M : Int, M = 2 ^ (64 - k) := ⟨_, rfl⟩
  rw [← eK] at hk hw ⊢
  rw [← eM] at hm hw ⊢
  obtain ⟨H, eH⟩ : ∃ H : Int, H = p / 18446744073709551616 := ⟨_, rfl⟩
  obtain ⟨L, eL⟩ : ∃ L : Int, L = p % 18446744073709551616 := ⟨_, rfl⟩
  rw [← eH, ← eL]
  have eP : p = L + K * (M * H) := by rw [← Int.mul_assoc, hw]; omega
  have l0 : 0 ≤ L := by omega
  have l1 : L / K < M := Int.ediv_lt_of_lt_mul hk (by rw [Int.mul_comm, hw]; omega)
  have l2 : 0 ≤ L / K := Int.ediv_nonneg l0 (by omega)
  have l3 : M ≤ 18446744073709551616 := by
    have := Int.mul_le_mul_of_nonneg_right (show (1 : Int) ≤ K by omega) (show 0 ≤ M by omega)
    omega
  have eq1 : p / K = L / K + M * H := by rw [eP, Int.add_mul_ediv_left _ _ (by omega)]
  have em : (H % 18446744073709551616 * M) % 18446744073709551616 = (M * H) % 18446744073709551616 := by
    rw [Int.mul_comm M H, Int.mul_emod, Int.emod_emod_of_dvd _ (Int.dvd_refl _), ← Int.mul_emod]
  have hd : (M * H) % 18446744073709551616 % M = 0 := by
    rw [Int.emod_emod_of_dvd _ ⟨K, by rw [Int.mul_comm, hw]⟩]
    exact Int.mul_emod_right _ _
  have pw : (2 : Int) ^ 64 = 18446744073709551616 := by decide
  rw [em, bits_join .u64 64 (by decide) wraps_u64 (64 - k) _ _ (by omega) (by rw [← eM]; exact hd) (by omega) l2 (by rw [← eM]; exact l1) (by omega), eq1]
  -- the sum does not reach the next
  obtain ⟨Q, eQ⟩ : ∃ Q : Int, Q = (M * H) / 18446744073709551616 := ⟨_, rfl⟩
  obtain ⟨R, eR⟩ : ∃ R : Int, R = (M * H) % 18446744073709551616 := ⟨_, rfl⟩
  have es : M * H = 18446744073709551616 * Q + R := by omega
  have r1 : R + L / K < 18446744073709551616 := by
    rw [← eR] at hd
    obtain ⟨t, ht⟩ := Int.dvd_of_emod_eq_zero hd
    have hR : R < 18446744073709551616 := by omega
    rw [ht, ← hw, Int.mul_comm K M] at hR
    have : t < K := Int.lt_of_mul_lt_mul_left hR (by omega)
    have h5 : M * t ≤ M * (K - 1) := Int.mul_le_mul_of_nonneg_left (by omega) (by omega)
    rw [Int.mul_sub, Int.mul_one, Int.mul_comm M K, hw] at h5
    omega
  rw [es]
  omega
end Go.Proofs.Ytffhhgcgnillaaa.Sy
