/- Functions of this part, each as a plain Lean function, and a proof that the machine comes to just what it says; written by a program of this session (xprint.py, over the kit's print). Conditions: those that each theorem names. -/
import Derived.Test.YtkneefkhggacmaaXx0
namespace Go.Proofs.Ytkneefkhggacmaa.X
open Go.Proofs.Ytkneefkhggacmaa
open Go.RowKit Go.Proofs.YtkneefkhggacmaaW.PrintWords Go.Proofs.YtkneefkhggacmaaW.PrintLast Go.Proofs.YtkneefkhggacmaaW.PrintMore
attribute [local go_sem] max2_int min2_int max_two min_two max_three min_three max_four min_four   -- for this text's walks alone
set_option linter.unusedVariables false
set_option linter.unusedSimpArgs false

/-! ### limnerlaw04_near: function 29 -/
def limnerlaw04_near.f (a0 : Int) (a1 : Int) : Option (Bool) := if (wrap64 (a0 - a1)) ≤ 6 then (some (decide ((wrap64 (a1 - a0)) ≤ 6))) else (some false)
set_option maxHeartbeats 8000000 in
set_option maxRecDepth 100000 in
theorem limnerlaw04_near.calls (a0 : Int) (a1 : Int) (r : Bool) (w : World) (h : limnerlaw04_near.f a0 a1 = some r) :
    Calls Try.prog 29 #[.int .i64 a0, .int .i64 a1] w fun e w' => e = .returned (.bool r) ∧ Drawn0 w w' := by
  have H : (if (wrap64 (a0 - a1)) ≤ 6 then (some (decide ((wrap64 (a1 - a0)) ≤ 6))) else (some false)) = some r := h
  clear h
  by_cases c3 : (wrap64 (a0 - a1)) ≤ 6
  · rw [if_pos c3] at H
    have c3b0 : decide ((wrap64 (a0 - a1)) ≤ 6) = true := decide_eq_true c3
    clear c3
    obtain rfl := Option.some.inj H
    go_enter Try.func29, Try.ntmps29
    go_wp2
    go_ret
    exact ⟨by first | rfl | (simp; done) | (simp [*]; done), by repeat (first | exact Drawn0.refl _ | apply Drawn0.step)⟩
  · rw [if_neg c3] at H
    have c3b0 : decide ((wrap64 (a0 - a1)) ≤ 6) = false := decide_eq_false c3
    clear c3
    obtain rfl := Option.some.inj H
    go_enter Try.func29, Try.ntmps29
    go_wp2
    go_ret
    exact ⟨by first | rfl | (simp; done) | (simp [*]; done), by repeat (first | exact Drawn0.refl _ | apply Drawn0.step)⟩

end Go.Proofs.Ytkneefkhggacmaa.X
