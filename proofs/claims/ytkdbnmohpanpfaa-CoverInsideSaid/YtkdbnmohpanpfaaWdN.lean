/- Plain numbers of 128 bits: products, parts, signs. Conditions: those that each theorem names. -/
import Derived.Test.YtkdbnmohpanpfaaSyV
import Derived.Laws.MathBits
import Derived.Lib.Mul64
namespace Go.Proofs.Ytkdbnmohpanpfaa.Sy
open Go Go.RowKit

/-- The sign. -/
def sgn (x : Int) : Int := if 0 < x then 1 else if x < 0 then -1 else 0
theorem sgn_pos {x : Int} (h : 0 < x) : sgn x = 1 := if_pos h
theorem sgn_neg {x : Int} (h : x < 0) : sgn x = -1 := by unfold sgn; rw [if_neg (by omega), if_pos h]
theorem sgn_zero : sgn 0 = 0 := rfl
theorem sgn_eq_one {x : Int} : sgn x = 1 ↔ 0 < x := by unfold sgn; split <;> (try split) <;> omega
theorem sgn_eq_neg {x : Int} : sgn x = -1 ↔ x < 0 := by unfold sgn; split <;> (try split) <;> omega
theorem sgn_eq_zero {x : Int} : sgn x = 0 ↔ x = 0 := by unfold sgn; split <;> (try split) <;> omega
theorem sgn_neg' (x : Int) : sgn (-x) = -sgn x := by unfold sgn; split <;> split <;> (try split) <;> omega
theorem sgn_bd (x : Int) : -1 ≤ sgn x ∧ sgn x ≤ 1 := by unfold sgn; split <;> (try split) <;> omega
theorem w64 {n : Int} (h : -9223372036854775808 ≤ n ∧ n ≤ 9223372036854775807) : wrap64 n = n := by unfold wrap64; omega
theorem w64' {n : Int} (h1 : -9223372036854775808 ≤ n) (h2 : n ≤ 9223372036854775807) : wrap64 n = n := by unfold wrap64; omega
theorem wu64 (n : Int) : IntKind.u64.wrap n = n % 18446744073709551616 := IntKind.wrap_u64 n

/-- A product's parts. -/
theorem mul64_int (x y : Int) (hx0 : 0 ≤ x) (hx : x < 18446744073709551616) (hy0 : 0 ≤ y) (hy : y < 18446744073709551616) :
    IntKind.u64.wrap ((IntKind.u64.wrap ((IntKind.u64.wrap ((x / 4294967296) * (y / 4294967296))) + ((IntKind.u64.wrap ((IntKind.u64.wrap ((x / 4294967296) * (Go.bits .and .u64 y 4294967295))) + ((IntKind.u64.wrap ((Go.bits .and .u64 x 4294967295) * (Go.bits .and .u64 y 4294967295))) / 4294967296))) / 4294967296))) + ((IntKind.u64.wrap ((Go.bits .and .u64 (IntKind.u64.wrap ((IntKind.u64.wrap ((x / 4294967296) * (Go.bits .and .u64 y 4294967295))) + ((IntKind.u64.wrap ((Go.bits .and .u64 x 4294967295) * (Go.bits .and .u64 y 4294967295))) / 4294967296))) 4294967295) + (IntKind.u64.wrap ((Go.bits .and .u64 x 4294967295) * (y / 4294967296))))) / 4294967296)) = x * y / 18446744073709551616 := by
  obtain ⟨a, rfl⟩ := Int.eq_ofNat_of_zero_le hx0
  obtain ⟨b, rfl⟩ := Int.eq_ofNat_of_zero_le hy0
  have ha : a < 18446744073709551616 := by omega
  have hb : b < 18446744073709551616 := by omega
  obtain ⟨h1, h2, h3, h4⟩ := Lib.mul64_hi a b ha hb
  rw [and_low32 _ (by omega) (by omega), and_low32 _ (by omega) (by omega)]
  have e1 : ((a : Int) / 4294967296) = ((a / 4294967296 : Nat) : Int) := by omega
  have e2 : ((b : Int) / 4294967296) = ((b / 4294967296 : Nat) : Int) := by omega
  have e3 : ((a : Int) % 4294967296) = ((a % 4294967296 : Nat) : Int) := by omega
  have e4 : ((b : Int) % 4294967296) = ((b % 4294967296 : Nat) : Int) := by omega
  rw [e1, e2, e3, e4]
  have q1 := Lib.half_mul_le (a := a / 4294967296) (b := b / 4294967296) (by omega) (by omega)
  have q2 := Lib.half_mul_le (a := a / 4294967296) (b := b % 4294967296) (by omega) (by omega)
  have q3 := Lib.half_mul_le (a := a % 4294967296) (b := b / 4294967296) (by omega) (by omega)
  have q4 := Lib.half_mul_le (a := a % 4294967296) (b := b % 4294967296) (by omega) (by omega)
  have hm : ((a : Int) * (b : Int)) / 18446744073709551616 = ((a * b / 18446744073709551616 : Nat) : Int) := by
    rw [Int.natCast_ediv, Int.natCast_mul]
    rfl
  rw [hm, ← h4]
  simp only [← Int.natCast_mul]
  generalize (a / 4294967296) * (b / 4294967296) = p at *
  generalize (a / 4294967296) * (b % 4294967296) = q at *
  generalize (a % 4294967296) * (b / 4294967296) = r at *
  generalize (a % 4294967296) * (b % 4294967296) = s at *
  have w1 : IntKind.u64.wrap (s : Int) = (s : Int) := by rw [wu64]; omega
  have w2 : IntKind.u64.wrap (q : Int) = (q : Int) := by rw [wu64]; omega
  have w3 : IntKind.u64.wrap (p : Int) = (p : Int) := by rw [wu64]; omega
  have w4 : IntKind.u64.wrap (r : Int) = (r : Int) := by rw [wu64]; omega
  rw [w1, w2, w3, w4]
  have w5 : IntKind.u64.wrap ((q : Int) + (s : Int) / 4294967296) = ((q + s / 4294967296 : Nat) : Int) := by rw [wu64]; omega
  rw [w5]
  rw [and_low32 _ (by omega) (by omega)]
  simp only [wu64]
  omega

/-- A number of 128 bits, told by its parts. -/
theorem parts_hi {p : Int} {hi lo : Int} (h : p = hi * 18446744073709551616 + lo) (h0 : 0 ≤ lo) (h1 : lo < 18446744073709551616) : p / 18446744073709551616 = hi ∧ p % 18446744073709551616 = lo := by omega

theorem mul_bd {a b : Int} (ha : -9223372036854775808 ≤ a) (ha' : a ≤ 9223372036854775807) (hb : -9223372036854775808 ≤ b) (hb' : b ≤ 9223372036854775807) :
    -85070591730234615856620279821087277056 ≤ a * b ∧ a * b ≤ 85070591730234615865843651857942052864 := by
  have key : ∀ x y : Int, 0 ≤ x → x ≤ 9223372036854775808 → 0 ≤ y → y ≤ 9223372036854775808 → 0 ≤ x * y ∧ x * y ≤ 85070591730234615865843651857942052864 := by
    intro x y h1 h2 h3 h4
    exact ⟨Int.mul_nonneg h1 h3, Int.le_trans (Int.mul_le_mul_of_nonneg_right h2 h3) (by omega)⟩
  have key2 : ∀ x y : Int, 0 ≤ x → x ≤ 9223372036854775807 → 0 ≤ y → y ≤ 9223372036854775808 → 0 ≤ x * y ∧ x * y ≤ 85070591730234615856620279821087277056 := by
    intro x y h1 h2 h3 h4
    exact ⟨Int.mul_nonneg h1 h3, Int.le_trans (Int.mul_le_mul_of_nonneg_right h2 h3) (by omega)⟩
  rcases Int.le_total 0 a with h | h <;> rcases Int.le_total 0 b with h' | h'
  · have := key a b h (by omega) h' (by omega); omega
  · have := key2 a (-b) h (by omega) (by omega) (by omega); rw [Int.mul_neg] at this; omega
  · have := key2 b (-a) h' (by omega) (by omega) (by omega); rw [Int.mul_neg, Int.mul_comm] at this; omega
  · have := key (-a) (-b) (by omega) (by omega) (by omega) (by omega); rw [Int.neg_mul_neg] at this; omega

/-- Of two ints as unsigned numbers, less what the signs count too much: the product's parts. -/
theorem signed_mul (a b : Int) (ha : -9223372036854775808 ≤ a) (ha' : a ≤ 9223372036854775807) (hb : -9223372036854775808 ≤ b) (hb' : b ≤ 9223372036854775807) :
    wrap64 ((a % 18446744073709551616) * (b % 18446744073709551616) / 18446744073709551616 - (if a < 0 then b % 18446744073709551616 else 0) - (if b < 0 then a % 18446744073709551616 else 0)) = a * b / 18446744073709551616 ∧
      (a % 18446744073709551616) * (b % 18446744073709551616) % 18446744073709551616 = a * b % 18446744073709551616 := by
  have hbd := mul_bd ha ha' hb hb'
  have e1 : a % 18446744073709551616 = if a < 0 then a + 18446744073709551616 else a := by split <;> omega
  have e2 : b % 18446744073709551616 = if b < 0 then b + 18446744073709551616 else b := by split <;> omega
  rw [e1, e2]
  by_cases h1 : a < 0 <;> by_cases h2 : b < 0
  · simp only [if_pos h1, if_pos h2]
    have : (a + 18446744073709551616) * (b + 18446744073709551616) = a * b + 18446744073709551616 * (a + b + 18446744073709551616) := by rw [Int.add_mul, Int.mul_add, Int.mul_add, Int.mul_add, Int.mul_add, Int.mul_comm a 18446744073709551616]; omega
    rw [this]
    generalize a * b = p at *
    unfold wrap64
    omega
  · simp only [if_pos h1, if_neg h2]
    have : (a + 18446744073709551616) * b = a * b + 18446744073709551616 * b := by rw [Int.add_mul]
    rw [this]
    generalize a * b = p at *
    unfold wrap64
    omega
  · simp only [if_neg h1, if_pos h2]
    have : a * (b + 18446744073709551616) = a * b + 18446744073709551616 * a := by rw [Int.mul_add, Int.mul_comm a 18446744073709551616]
    rw [this]
    generalize a * b = p at *
    unfold wrap64
    omega
  · simp only [if_neg h1, if_neg h2]
    generalize a * b = p at *
    unfold wrap64
    exact ⟨by omega, trivial⟩
end Go.Proofs.Ytkdbnmohpanpfaa.Sy
