/- WideRings' pure statement: sums and products of ints keep to the rules of numbers. Conditions: none. -/
import Derived.Test.YtjgkommhdodghaaXx2
import Derived.Test.YtjgkommhdodghaaXx6
import Derived.Test.YtjgkommhdodghaaXx8
import Derived.Test.YtjgkommhdodghaaPSqrt
namespace Go.Proofs.Ytjgkommhdodghaa.Pure
open Go.RowKit Go.Proofs.YtjgkommhdodghaaW.PrintWords Go.Proofs.Ytjgkommhdodghaa.X Go.Proofs.Ytjgkommhdodghaa.PNum Go.Proofs.Ytjgkommhdodghaa.PMul Go.Proofs.Ytjgkommhdodghaa.PShift Go.Proofs.Ytjgkommhdodghaa.PMulDiv Go.Proofs.Ytjgkommhdodghaa.PCmp Go.Proofs.Ytjgkommhdodghaa.PSqrt

theorem noB {a b : Int × Int} (h : a = b) : ¬ (!(a.1 == b.1) || (!(a.2 == b.2))) = true := by subst h; simp
theorem yesB {a b : Int × Int} (h : a = b) : (a.1 == b.1 && (a.2 == b.2)) = true := by subst h; simp
theorem WideRings : limnerlaw02_WideRings.Pure := by
  intro a b c ha hb hc
  have ha := wf64 ha
  have hb := wf64 hb
  have hc := wf64 hc
  have ⟨a1, a2⟩ := ha
  have ⟨b1, b2⟩ := hb
  have ⟨c1, c2⟩ := hc
  refine Ev.rounds ?_
  unfold limnerlaw02_WideRings.f
  have tail : ∀ (x1 x2 : Int), x1 = a * b / 18446744073709551616 → x2 = a * b % 18446744073709551616 → True := fun _ _ _ _ => trivial
  refine evSome (ofEq a a1 a2) (evSome (ofEq b b1 b2) (evSome (ofEq c c1 c2) (evSome (wideAdd (by omega) (by omega)) (evSome (wideAdd (by omega) (by omega)) (evNeg (noB (by rw [Int.add_comm])) ?_)))))
  refine evSome (wideAdd (by omega) (by omega)) (evSome (wideAdd (p := a + b) (by omega) (by omega)) (evSome (wideAdd (by omega) (by omega)) (evSome (wideAdd (q := b + c) (by omega) (by omega)) (evNeg (noB (by rw [Int.add_assoc])) ?_))))
  refine evSome (wideSub (by omega) (by omega)) (evSome (wideAdd (p := a - b) (by omega) (by omega)) (evNeg (noB (by rw [Int.sub_add_cancel])) ?_))
  refine evSome (wideNeg (by omega) (by omega)) (evSome (wideNeg (p := -a) (by omega) (by omega)) ?_)
  have e : (!((- -a) / 18446744073709551616 == a / 18446744073709551616) || (!((- -a) % 18446744073709551616 == a % 18446744073709551616))) = false := by rw [Int.neg_neg]; simp
  rw [e]
  have m1 := mul_bd a1 a2 b1 b2
  have m2 := mul_bd a1 a2 c1 c2
  have fin : Ev (fun k => (wide_Mul.f a 1).bind fun bt215 => (if (bt215.1 == a / 18446744073709551616 && (bt215.2 == a % 18446744073709551616)) = true then ((wide_Mul.f a (-1)).bind fun bt217 => ((wide_Num_Neg.f (a / 18446744073709551616) (a % 18446744073709551616)).bind fun bt219 => (if (bt217.1 == bt219.1 && (bt217.2 == bt219.2)) = true then ((limnerlaw02_awake.f k).bind fun t221 => (some t221)) else (none)))) else (none))) true := by
    refine evSome (wideMul a 1 a1 a2 (by decide) (by decide)) (evPos (yesB (a := (a * 1 / 18446744073709551616, a * 1 % 18446744073709551616)) (b := (a / 18446744073709551616, a % 18446744073709551616)) (by rw [Int.mul_one])) ?_)
    exact evSome (wideMul a (-1) a1 a2 (by decide) (by decide)) (evSome (wideNeg (by omega) (by omega)) (evPos (yesB (a := (a * -1 / 18446744073709551616, a * -1 % 18446744073709551616)) (b := (-a / 18446744073709551616, -a % 18446744073709551616)) (by rw [Int.mul_neg, Int.mul_one])) (Ev.bind awakeEv (Ev.now _))))
  refine Ev.step (fun _ => limnerlaw02_WideRings.j0.eq_2 ..) (evNeg (by simp) (evSome (wideAdd (p := b) (q := c) (by omega) (by omega)) (evSome (intOr (by omega) (by omega)) ?_)))
  by_cases h : I64 (b + c)
  · have m3 := mul_bd a1 a2 h.1 h.2
    rw [Int.mul_add] at m3
    rw [if_pos h]
    refine evPos rfl (evSome (wideMul a b a1 a2 b1 b2) (evSome (wideMul a c a1 a2 c1 c2) (evSome (wideAdd (p := a * b) (q := a * c) (by omega) (by omega)) (evSome (wideMul a (b + c) a1 a2 h.1 h.2) (evPos (yesB (a := ((a * b + a * c) / 18446744073709551616, (a * b + a * c) % 18446744073709551616)) (b := (a * (b + c) / 18446744073709551616, a * (b + c) % 18446744073709551616)) (by rw [Int.mul_add])) ?_)))))
    exact fin
  · rw [if_neg h]
    exact evNeg (by simp) fin
end Go.Proofs.Ytjgkommhdodghaa.Pure
