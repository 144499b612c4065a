/- What wide.Sqrt comes to (for seats without the other functions of package wide). Conditions: int's bounds. -/
import Derived.Test.YtidpeongblkcbaaXx3
import Derived.Test.YtidpeongblkcbaaPNum
import Derived.Test.YtidpeongblkcbaaPMul
import Derived.Test.YtidpeongblkcbaaPCmp
namespace Go.Proofs.Ytidpeongblkcbaa.PRoot
open Go.RowKit Go.Proofs.YtidpeongblkcbaaW.PrintWords Go.Proofs.Ytidpeongblkcbaa.X Go.Proofs.Ytidpeongblkcbaa.PNum Go.Proofs.Ytidpeongblkcbaa.PMul Go.Proofs.Ytidpeongblkcbaa.PCmp

def I64 (a : Int) : Prop := -9223372036854775808 ≤ a ∧ a ≤ 9223372036854775807
theorem shl_eq (k : IntKind) (x : Int) (n : Nat) (h : n ≤ k.bits) : shl k x n = k.wrap (x * 2 ^ n) := by
  unfold shl
  rw [Int.toNat_natCast, Nat.min_eq_left h]
theorem ofEq (a : Int) (h1 : -9223372036854775808 ≤ a) (h2 : a ≤ 9223372036854775807) : wide_Of.f a = some (a / 18446744073709551616, a % 18446744073709551616) := by
  unfold wide_Of.f
  rw [wu64]
  congr 2
  omega
theorem wraps_i64 (n : Int) (h₀ : 0 ≤ n) (h₁ : n < 2 ^ 63) : IntKind.i64.wrap n = n := by
  have : (2 : Int) ^ 63 = 9223372036854775808 := by decide
  rw [IntKind.wrap_i64]; omega
theorem pow32 {i : Nat} (h : i ≤ 32) : (0 : Int) < 2 ^ i ∧ (2 : Int) ^ i ≤ 4294967296 := by
  have h1 : (0 : Int) < 2 ^ i := Int.pow_pos (by decide)
  have h2 : (2 : Int) ^ i * 2 ^ (32 - i) = 4294967296 := by rw [← Int.pow_add, show i + (32 - i) = 32 by omega]; decide
  have h3 : (0 : Int) < 2 ^ (32 - i) := Int.pow_pos (by decide)
  have h4 := Int.mul_le_mul_of_nonneg_left (show (1 : Int) ≤ 2 ^ (32 - i) by omega) (Int.le_of_lt h1)
  exact ⟨h1, by omega⟩
/-- One digit more: r has zeros there. -/
theorem orBit {r : Int} {i : Nat} (hi : i ≤ 31) (h0 : 0 ≤ r) (h1 : r < 4294967296) (h2 : r % 2 ^ (i + 1) = 0) : Go.bits .or .i64 r (shl .i64 1 (i : Int)) = r + 2 ^ i := by
  have p := pow32 (i := i) (by omega)
  have pw : (2 : Int) ^ 63 = 9223372036854775808 := by decide
  have e : shl .i64 1 (i : Int) = 2 ^ i := by
    rw [shl_eq .i64 1 i (by show i ≤ 64; omega), Int.one_mul, wraps_i64 _ (by omega) (by omega)]
  rw [e]
  exact bits_join .i64 63 (by decide) wraps_i64 (i + 1) _ _ h0 h2 (by omega) (by omega) (by rw [Int.pow_succ]; omega) (by omega)
theorem sqrtLoop {n : Int} (hn : I64 n) : ∀ (i : Nat) (r : Int), i ≤ 32 → 0 ≤ r → r % 2 ^ i = 0 → r + 2 ^ i ≤ 4294967296 → (0 ≤ n → r * r ≤ n ∧ n < (r + 2 ^ i) * (r + 2 ^ i)) → (n < 0 → r = 0) →
    ∃ q : Int, 0 ≤ q ∧ q < 4294967296 ∧ (0 ≤ n → q * q ≤ n ∧ n < (q + 1) * (q + 1)) ∧ (n < 0 → q = 0) ∧ Ev (fun k => wide_Sqrt.l0 k n r ((i : Int) - 1)) q := by
  intro i
  induction i with
  | zero =>
    intro r _ h0 _ h2 h3 h4
    refine ⟨r, h0, ?_, ?_, h4, Ev.step (fun _ => wide_Sqrt.l0.eq_2 ..) (evNeg (by omega) (Ev.now _))⟩
    · simp at h2; omega
    · simpa using h3
  | succ i ih =>
    intro r hi h0 h1 h2 h3 h4
    have p := pow32 (i := i) (by omega)
    rw [Int.pow_succ] at h2 h3
    have hr : r < 4294967296 := by omega
    have e1 : ((i + 1 : Nat) : Int) - 1 = i := by omega
    have e2 : wrap64 ((i : Int) - 1) = (i : Int) - 1 := w64' (by omega) (by omega)
    have eo := orBit (r := r) (i := i) (by omega) h0 hr h1
    have mod0 : r % 2 ^ i = 0 := by
      have : (2 : Int) ^ i ∣ 2 ^ (i + 1) := ⟨2, by rw [Int.pow_succ]⟩
      exact Int.emod_eq_zero_of_dvd (Int.dvd_trans this (Int.dvd_of_emod_eq_zero h1))
    have mod1 : (r + 2 ^ i) % 2 ^ i = 0 := by rw [Int.add_emod_right]; exact mod0
    obtain ⟨B, eB⟩ : ∃ B : Int, B = 2 ^ i := ⟨_, rfl⟩
    rw [← eB] at p h2 h3 eo mod0 mod1 ih
    have go : ∀ (q : Int), (∃ z : Int, 0 ≤ z ∧ z < 4294967296 ∧ (0 ≤ n → z * z ≤ n ∧ n < (z + 1) * (z + 1)) ∧ (n < 0 → z = 0) ∧ Ev (fun k => wide_Sqrt.l0 k n q ((i : Int) - 1)) z) →
        (if sgn ((r + B) * (r + B) - n) ≤ 0 then r + B else r) = q →
        ∃ z : Int, 0 ≤ z ∧ z < 4294967296 ∧ (0 ≤ n → z * z ≤ n ∧ n < (z + 1) * (z + 1)) ∧ (n < 0 → z = 0) ∧ Ev (fun k => wide_Sqrt.l0 k n r (((i + 1 : Nat) : Int) - 1)) z := by
      intro q ⟨z, z0, z1, z2, z3, z4⟩ hq
      refine ⟨z, z0, z1, z2, z3, ?_⟩
      rw [e1]
      refine Ev.step (fun _ => wide_Sqrt.l0.eq_2 ..) (evPos (by omega) (evPos (by omega) ?_))
      rw [eo, e2]
      refine evSome (wideMul _ _ (by omega) (by omega) (by omega) (by omega)) (evSome (ofEq n hn.1 hn.2) (Ev.bind (wideCmp _ _) ?_))
      by_cases c : sgn ((r + B) * (r + B) - n) ≤ 0
      · rw [if_pos c] at hq
        exact evPos c (hq ▸ z4)
      · rw [if_neg c] at hq
        exact evNeg c (hq ▸ z4)
    by_cases c : sgn ((r + B) * (r + B) - n) ≤ 0
    · have hle : (r + B) * (r + B) ≤ n := by
        unfold sgn at c
        split at c
        · omega
        · omega
      have hpos : 0 ≤ (r + B) * (r + B) := Int.mul_nonneg (by omega) (by omega)
      refine go (r + B) (ih (r + B) (by omega) (by omega) mod1 (by omega) ?_ (fun h => by omega)) (if_pos c)
      intro hn0
      refine ⟨hle, ?_⟩
      have := (h3 hn0).2
      rw [show r + B + B = r + B * 2 by omega]
      exact this
    · have hgt : n < (r + B) * (r + B) := by
        unfold sgn at c
        split at c
        · omega
        · split at c <;> omega
      exact go r (ih r (by omega) h0 mod0 (by omega) (fun hn0 => ⟨(h3 hn0).1, hgt⟩) h4) (if_neg c)
theorem sqrtEv {n : Int} (hn : I64 n) : ∃ q : Int, 0 ≤ q ∧ q < 4294967296 ∧ (0 ≤ n → q * q ≤ n ∧ n < (q + 1) * (q + 1)) ∧ (n < 0 → q = 0) ∧ Ev (fun k => wide_Sqrt.f k n) q := by
  obtain ⟨h1, h2⟩ := hn
  exact sqrtLoop ⟨h1, h2⟩ 32 0 (by decide) (by decide) (by decide) (by decide) (fun h => ⟨h, by show n < (0 + 2 ^ 32) * (0 + 2 ^ 32); have : ((0 : Int) + 2 ^ 32) * (0 + 2 ^ 32) = 18446744073709551616 := (by decide); rw [this]; omega⟩) (fun _ => rfl)
end Go.Proofs.Ytidpeongblkcbaa.PRoot
