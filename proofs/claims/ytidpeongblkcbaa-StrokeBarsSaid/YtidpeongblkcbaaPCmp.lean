/- What the comparison of two numbers of 128 bits comes to. Conditions: none. -/
import Derived.Test.YtidpeongblkcbaaXx2
import Derived.Test.YtidpeongblkcbaaXx3
import Derived.Test.YtidpeongblkcbaaPNum
namespace Go.Proofs.Ytidpeongblkcbaa.PCmp
open Go.RowKit Go.Proofs.YtidpeongblkcbaaW.PrintWords Go.Proofs.Ytidpeongblkcbaa.X Go.Proofs.Ytidpeongblkcbaa.PNum

theorem cmpI (a b : Int) : cmp_Compare_int64.f a b = some (sgn (a - b)) := by
  unfold cmp_Compare_int64.f cmp_isNaN_int64.f
  simp only [bne_self_eq_false, Option.bind_some, Bool.false_eq_true, if_false]
  unfold sgn
  by_cases h1 : a < b
  · rw [if_pos h1, if_neg (by omega), if_pos (by omega)]
  · by_cases h2 : a > b
    · rw [if_neg h1, if_pos h2, if_pos (by omega)]
    · rw [if_neg h1, if_neg h2, if_neg (by omega), if_neg (by omega)]
theorem cmpU (a b : Int) : cmp_Compare_uint64.f a b = some (sgn (a - b)) := by
  unfold cmp_Compare_uint64.f cmp_isNaN_uint64.f
  simp only [bne_self_eq_false, Option.bind_some, Bool.false_eq_true, if_false]
  unfold sgn
  by_cases h1 : a < b
  · rw [if_pos h1, if_neg (by omega), if_pos (by omega)]
  · by_cases h2 : a > b
    · rw [if_neg h1, if_pos h2, if_pos (by omega)]
    · rw [if_neg h1, if_neg h2, if_neg (by omega), if_neg (by omega)]
theorem cmpOr (a b : Int) : Ev (fun k => cmp_Or_int.f k [a, b]) (if a = 0 then b else a) := by
  refine ⟨4, fun k hk => ?_⟩
  obtain ⟨k, rfl⟩ : ∃ m, k = m + 4 := ⟨k - 4, by omega⟩
  unfold cmp_Or_int.f
  have e0 : wrap64 (0 + 1) = 1 := by unfold wrap64; omega
  have e1 : wrap64 (1 + 1) = 2 := by unfold wrap64; omega
  have r0 : rd [a, b] 0 = a := rfl
  have r1 : rd [a, b] 1 = b := rfl
  simp only [cmp_Or_int.l0, List.length_cons, List.length_nil, r0, r1, e0, e1]
  by_cases h : a = 0
  · by_cases h2 : b = 0
    · simp [h, h2]
    · simp [h, h2]
  · simp [h]
/-- Two numbers of 128 bits, told apart. -/
theorem wideCmp (p q : Int) : Ev (fun k => wide_Num_Cmp.f k (p / 18446744073709551616) (p % 18446744073709551616) (q / 18446744073709551616) (q % 18446744073709551616)) (sgn (p - q)) := by
  unfold wide_Num_Cmp.f
  simp only [cmpI, cmpU, Option.bind_some]
  have e : sgn (p - q) = if sgn (p / 18446744073709551616 - q / 18446744073709551616) = 0 then sgn (p % 18446744073709551616 - q % 18446744073709551616) else sgn (p / 18446744073709551616 - q / 18446744073709551616) := by
    unfold sgn
    split <;> split <;> (try split) <;> (try split) <;> (try split) <;> (try split) <;> omega
  rw [e]
  exact Ev.bind (cmpOr _ _) (Ev.now _)
end Go.Proofs.Ytidpeongblkcbaa.PCmp
