/- What the printed functions of package wide, fixed and cmp come to, in plain numbers. Conditions: the ranges that each theorem names. -/
import Derived.Test.YtfhjndnempmcaaaXx11
import Derived.Test.YtfhjndnempmcaaaXx3
import Derived.Test.YtfhjndnempmcaaaXx4
import Derived.Test.YtfhjndnempmcaaaPNum
namespace Go.Proofs.Ytfhjndnempmcaaa.PWide
open Go.RowKit Go.Proofs.YtfhjndnempmcaaaW.PrintWords Go.Proofs.Ytfhjndnempmcaaa.X Go.Proofs.Ytfhjndnempmcaaa.PNum

theorem fixedIn (a : Int) : fixed_In.f a = some (decide (-2147483648 ≤ a ∧ a ≤ 2147483648)) := by
  unfold fixed_In.f
  split
  · rename_i h
    congr 1
    rw [decide_eq_decide]
    omega
  · rename_i h
    congr 1
    symm
    rw [decide_eq_false_iff_not]
    omega
theorem refIn (a : Int) : limnerref01_In.f a = some (decide (-2147483648 ≤ a ∧ a ≤ 2147483648)) := by
  unfold limnerref01_In.f
  split
  · rename_i h
    congr 1
    rw [decide_eq_decide]
    omega
  · rename_i h
    congr 1
    symm
    rw [decide_eq_false_iff_not]
    omega
theorem mul64 (x y : Int) (hx0 : 0 ≤ x) (hx : x < 18446744073709551616) (hy0 : 0 ≤ y) (hy : y < 18446744073709551616) :
    bits_Mul64.f x y = some (x * y / 18446744073709551616, x * y % 18446744073709551616) := by
  unfold bits_Mul64.f
  rw [mul64_int x y hx0 hx hy0 hy, wu64]
theorem wideMul (a b : Int) (ha : -9223372036854775808 ≤ a) (ha' : a ≤ 9223372036854775807) (hb : -9223372036854775808 ≤ b) (hb' : b ≤ 9223372036854775807) :
    wide_Mul.f a b = some (a * b / 18446744073709551616, a * b % 18446744073709551616) := by
  unfold wide_Mul.f
  rw [wu64, wu64, mul64 _ _ (by omega) (by omega) (by omega) (by omega)]
  simp only [Option.bind_some]
  obtain ⟨h1, h2⟩ := signed_mul a b ha ha' hb hb'
  rw [h2, ← h1]
  simp only [wu64]
  have key : ∀ z : Int, wrap64 (z % 18446744073709551616) = wrap64 z := by intro z; unfold wrap64; omega
  have key2 : ∀ z v : Int, wrap64 ((z % 18446744073709551616 - v) % 18446744073709551616) = wrap64 (z - v) := by intro z v; unfold wrap64; omega
  by_cases c1 : a < 0 <;> by_cases c2 : b < 0
  · simp only [if_pos c1, if_pos c2]
    rw [key2]
  · simp only [if_pos c1, if_neg c2]
    rw [key, Int.sub_zero]
  · simp only [if_neg c1, if_pos c2]
    rw [key, Int.sub_zero]
  · simp only [if_neg c1, if_neg c2]
    rw [Int.sub_zero, Int.sub_zero]
theorem cmpI (a b : Int) : cmp_Compare_int64.f a b = some (sgn (a - b)) := by
  unfold cmp_Compare_int64.f cmp_isNaN_int64.f
  simp only [bne_self_eq_false, Option.bind_some, Bool.false_eq_true, if_false]
  unfold sgn
  by_cases h1 : a < b
  · rw [if_pos h1, if_neg (by omega), if_pos (by omega)]
  · by_cases h2 : a > b
    · rw [if_neg h1, if_pos h2, if_pos (by omega)]
    · rw [if_neg h1, if_neg h2, if_neg (by omega), if_neg (by omega)]
theorem cmpU (a b : Int) : cmp_Compare_uint64.f a b = some (sgn (a - b)) := by
  unfold cmp_Compare_uint64.f cmp_isNaN_uint64.f
  simp only [bne_self_eq_false, Option.bind_some, Bool.false_eq_true, if_false]
  unfold sgn
  by_cases h1 : a < b
  · rw [if_pos h1, if_neg (by omega), if_pos (by omega)]
  · by_cases h2 : a > b
    · rw [if_neg h1, if_pos h2, if_pos (by omega)]
    · rw [if_neg h1, if_neg h2, if_neg (by omega), if_neg (by omega)]
theorem cmpOr (a b : Int) : Ev (fun k => cmp_Or_int.f k [a, b]) (if a = 0 then b else a) := by
  refine ⟨4, fun k hk => ?_⟩
  obtain ⟨k, rfl⟩ : ∃ m, k = m + 4 := ⟨k - 4, by omega⟩
  unfold cmp_Or_int.f
  have e0 : wrap64 (0 + 1) = 1 := by unfold wrap64; omega
  have e1 : wrap64 (1 + 1) = 2 := by unfold wrap64; omega
  have r0 : rd [a, b] 0 = a := rfl
  have r1 : rd [a, b] 1 = b := rfl
  simp only [cmp_Or_int.l0, List.length_cons, List.length_nil, r0, r1, e0, e1]
  by_cases h : a = 0
  · by_cases h2 : b = 0
    · simp [h, h2]
    · simp [h, h2]
  · simp [h]
/-- Two numbers of 128 bits, told apart. -/
theorem wideCmp (p q : Int) : Ev (fun k => wide_Num_Cmp.f k (p / 18446744073709551616) (p % 18446744073709551616) (q / 18446744073709551616) (q % 18446744073709551616)) (sgn (p - q)) := by
  unfold wide_Num_Cmp.f
  simp only [cmpI, cmpU, Option.bind_some]
  have e : sgn (p - q) = if sgn (p / 18446744073709551616 - q / 18446744073709551616) = 0 then sgn (p % 18446744073709551616 - q % 18446744073709551616) else sgn (p / 18446744073709551616 - q / 18446744073709551616) := by
    unfold sgn
    split <;> split <;> (try split) <;> (try split) <;> (try split) <;> (try split) <;> omega
  rw [e]
  exact Ev.bind (cmpOr _ _) (Ev.now _)
end Go.Proofs.Ytfhjndnempmcaaa.PWide
