/- What a product of two ints comes to. Conditions: int's bounds. -/
import Derived.Test.YtidpeongblkcbaaXx2
import Derived.Test.YtidpeongblkcbaaPNum
namespace Go.Proofs.Ytidpeongblkcbaa.PMul
open Go.RowKit Go.Proofs.YtidpeongblkcbaaW.PrintWords Go.Proofs.Ytidpeongblkcbaa.X Go.Proofs.Ytidpeongblkcbaa.PNum

theorem mul64 (x y : Int) (hx0 : 0 ≤ x) (hx : x < 18446744073709551616) (hy0 : 0 ≤ y) (hy : y < 18446744073709551616) :
    bits_Mul64.f x y = some (x * y / 18446744073709551616, x * y % 18446744073709551616) := by
  unfold bits_Mul64.f
  rw [mul64_int x y hx0 hx hy0 hy, wu64]
theorem wideMul (a b : Int) (ha : -9223372036854775808 ≤ a) (ha' : a ≤ 9223372036854775807) (hb : -9223372036854775808 ≤ b) (hb' : b ≤ 9223372036854775807) :
    wide_Mul.f a b = some (a * b / 18446744073709551616, a * b % 18446744073709551616) := by
  unfold wide_Mul.f
  rw [wu64, wu64, mul64 _ _ (by omega) (by omega) (by omega) (by omega)]
  simp only [Option.bind_some]
  obtain ⟨h1, h2⟩ := signed_mul a b ha ha' hb hb'
  rw [h2, ← h1]
  simp only [wu64]
  have key : ∀ z : Int, wrap64 (z % 18446744073709551616) = wrap64 z := by intro z; unfold wrap64; omega
  have key2 : ∀ z v : Int, wrap64 ((z % 18446744073709551616 - v) % 18446744073709551616) = wrap64 (z - v) := by intro z v; unfold wrap64; omega
  by_cases c1 : a < 0 <;> by_cases c2 : b < 0
  · simp only [if_pos c1, if_pos c2]
    rw [key2]
  · simp only [if_pos c1, if_neg c2]
    rw [key, Int.sub_zero]
  · simp only [if_neg c1, if_pos c2]
    rw [key, Int.sub_zero]
  · simp only [if_neg c1, if_neg c2]
    rw [Int.sub_zero, Int.sub_zero]
end Go.Proofs.Ytidpeongblkcbaa.PMul
