-- PRINTED BY print.sh 35421559b90ae4d0a3588c463048766b98c2df88dd9212a6774a882060cdf62d: not written by this session
import Derived.Test.YtkneefkhggacmaaWInv
import Derived.Test.YtkneefkhggacmaaWFootNe
namespace Go.Proofs.YtkneefkhggacmaaW.PrintWords
open Go.RowKit
theorem atom_of {v1 v2 : Value} {k : Nat} (h : v1.ownBlock = none ∨ v1.ownBlock ≠ v2.ownBlock) (hk : v1.ownBlock = some k) : some k ≠ v2.ownBlock := by
  rcases h with h | h
  · rw [h] at hk; cases hk
  · rw [← hk]; exact h
theorem atom_of' {v1 v2 : Value} {k : Nat} (h : v1.ownBlock = none ∨ v1.ownBlock ≠ v2.ownBlock) (hk : v2.ownBlock = some k) : some k ≠ v1.ownBlock := by
  intro e
  rcases h with h | h
  · rw [h] at e; cases e
  · exact h (e.symm.trans hk.symm)
end Go.Proofs.YtkneefkhggacmaaW.PrintWords
namespace Go.Proofs.YtkneefkhggacmaaW.PrintLast
section
variable {ops : Array Oper} {a : Act} {o og : Oper} {g : Nat} {t : Tmp} {u : Bool}
/-- An operand out of its slot. -/
theorem eval_of {v : Value} (h : a.tmps[t]? = some v) : a.eval (.tmp t) = v := by simp [Act.eval, h]
end
end Go.Proofs.YtkneefkhggacmaaW.PrintLast
