/- An evaluator of a part of Go's operations over a memory of its own, part eighteen: numbers of all kinds. Conditions: those that each theorem names. -/
import Derived.Test.YtkdbnmohpanpfaaSyR
import Derived.RowKit
import Derived.Laws.Bits64
import Derived.Laws.BitsLemmas
namespace Go.Proofs.Ytkdbnmohpanpfaa.Sy
open Go
set_option linter.unusedVariables false
set_option linter.unusedSimpArgs false

abbrev U (n : Int) : Cell := .sc (.int .u64 n)
abbrev RU (n : Int) : Reg := .one (.sc (.int .u64 n))

section
variable {k k' : IntKind} {a b : Int}
theorem bV_add : binV .add (.int k a) (.int k b) = some (.int k (k.wrap (a + b))) := by simp [binV]
theorem bV_sub : binV .sub (.int k a) (.int k b) = some (.int k (k.wrap (a - b))) := by simp [binV]
theorem bV_mul : binV .mul (.int k a) (.int k b) = some (.int k (k.wrap (a * b))) := by simp [binV]
theorem bV_eql : binV .eql (.int k a) (.int k b) = some (.bool (decide (a = b))) := by
  simp only [binV, if_true, Option.some.injEq, Value.bool.injEq]
  by_cases h : a = b <;> simp [h]
theorem bV_neq : binV .neq (.int k a) (.int k b) = some (.bool (!decide (a = b))) := by
  simp only [binV, if_true, Option.some.injEq, Value.bool.injEq]
  by_cases h : a = b <;> simp [h]
theorem bV_lss : binV .lss (.int k a) (.int k b) = some (.bool (decide (a < b))) := by simp [binV]
theorem bV_leq : binV .leq (.int k a) (.int k b) = some (.bool (decide (a ≤ b))) := by simp [binV]
theorem bV_gtr : binV .gtr (.int k a) (.int k b) = some (.bool (decide (b < a))) := by simp [binV]
theorem bV_geq : binV .geq (.int k a) (.int k b) = some (.bool (decide (b ≤ a))) := by simp [binV]
theorem bV_quo (h : (b = 0) = False) : binV .quo (.int k a) (.int k b) = some (.int k (k.wrap (a.tdiv b))) := by simp [binV, h]
theorem bV_rem (h : (b = 0) = False) : binV .rem (.int k a) (.int k b) = some (.int k (a.tmod b)) := by simp [binV, h]
theorem bV_shr (h : 0 ≤ b) : binV .shr (.int k a) (.int k' b) = some (.int k (a / 2 ^ min b.toNat k.bits)) := by
  have : ¬ b < 0 := by omega
  simp only [binV, this, if_false]
  rw [Int.fdiv_eq_ediv_of_nonneg _ (Int.le_of_lt (Int.pow_pos (by decide)))]
theorem bV_shl (h : 0 ≤ b) : binV .shl (.int k a) (.int k' b) = some (.int k (k.wrap (a * 2 ^ min b.toNat k.bits))) := by
  have : ¬ b < 0 := by omega
  simp only [binV, this, if_false]
theorem uV_not {t : Bool} : unV .not (.bool t) = some (.bool !t) := rfl
theorem uV_neg : unV .neg (.int k a) = some (.int k (k.wrap (0 - a))) := rfl
end

theorem wrapU (n : Int) : IntKind.u64.wrap n = n % 18446744073709551616 := IntKind.wrap_u64 n
theorem wrapI (n : Int) : IntKind.i64.wrap n = Go.RowKit.wrap64 n := by
  simp [IntKind.wrap, IntKind.bits, IntKind.signed, Go.RowKit.wrap64]
  omega

theorem bits_and {k : IntKind} {a b : Int} : binV .and (.int k a) (.int k b) = some (.int k (Go.bits .and k a b)) := by
  simp [binV, Go.bits]
theorem bits_or {k : IntKind} {a b : Int} : binV .or (.int k a) (.int k b) = some (.int k (Go.bits .or k a b)) := by
  simp [binV, Go.bits]
theorem bits_xor {k : IntKind} {a b : Int} : binV .xor (.int k a) (.int k b) = some (.int k (Go.bits .xor k a b)) := by
  simp [binV, Go.bits]

def mnI (a b : Int) : Int := if b < a then b else a
def mxI (a b : Int) : Int := if a < b then b else a
theorem minI_two {kd : IntKind} (a b : Int) : minI a [.one (.sc (.int kd b))] = some (mnI a b) := by simp [minI, mnI]
theorem maxI_two {kd : IntKind} (a b : Int) : maxI a [.one (.sc (.int kd b))] = some (mxI a b) := by simp [maxI, mxI]
theorem maxI_three {kd kd' : IntKind} (a b c : Int) : maxI a [.one (.sc (.int kd b)), .one (.sc (.int kd' c))] = some (mxI (mxI a b) c) := rfl
end Go.Proofs.Ytkdbnmohpanpfaa.Sy
