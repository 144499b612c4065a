/- WideQuotients' pure statement: a product divided by an int is rounded down, told exact just if nothing is left; or refused. Conditions: none. -/
import Derived.Test.YtjgkommhdodghaaXx10
import Derived.Test.YtjgkommhdodghaaXx6
import Derived.Test.YtjgkommhdodghaaXx9
import Derived.Test.YtjgkommhdodghaaPSqrt
namespace Go.Proofs.Ytjgkommhdodghaa.Pure
open Go.RowKit Go.Proofs.YtjgkommhdodghaaW.PrintWords Go.Proofs.Ytjgkommhdodghaa.X Go.Proofs.Ytjgkommhdodghaa.PNum Go.Proofs.Ytjgkommhdodghaa.PMul Go.Proofs.Ytjgkommhdodghaa.PShift Go.Proofs.Ytjgkommhdodghaa.PMulDiv Go.Proofs.Ytjgkommhdodghaa.PCmp Go.Proofs.Ytjgkommhdodghaa.PSqrt

theorem signEv (p : Int) : Ev (fun k => wide_Num_Sign.f k (p / 18446744073709551616) (p % 18446744073709551616)) (sgn p) := by
  unfold wide_Num_Sign.f
  have := wideCmp p 0
  rw [show (0 : Int) / 18446744073709551616 = 0 from rfl, show (0 : Int) % 18446744073709551616 = 0 from rfl, Int.sub_zero] at this
  exact Ev.bind this (Ev.now _)
theorem WideQuotients : limnerlaw02_WideQuotients.Pure := by
  intro a b c ha hb hc
  have ha := wf64 ha
  have hb := wf64 hb
  have hc := wf64 hc
  have ⟨a1, a2⟩ := ha
  have ⟨b1, b2⟩ := hb
  have ⟨c1, c2⟩ := hc
  refine Ev.rounds ?_
  unfold limnerlaw02_WideQuotients.f
  refine Ev.bind (mulDivEv ha hb hc) ?_
  have aw : Ev (fun k => (limnerlaw02_awake.f k).bind fun t => some t) true := Ev.bind awakeEv (Ev.now _)
  by_cases c0 : c = 0
  · have e : mdV a b c = (0, false, 11) := if_pos c0
    rw [e]
    exact evPos c0 (evPos rfl (evPos rfl (evNeg (by decide) aw)))
  have m1 := mul_bd a1 a2 b1 b2
  refine evNeg c0 (evSome (wideMul a b a1 a2 b1 b2) ?_)
  have hfl := (fl_iff (p := a * b) (q := fl (a * b) c) c0).1 rfl
  by_cases hI : I64 (fl (a * b) c)
  · have e : mdV a b c = (fl (a * b) c, ex (a * b) c, 0) := by unfold mdV; rw [if_neg c0, if_pos hI]
    rw [e]
    obtain ⟨q, eq⟩ : ∃ q, q = fl (a * b) c := ⟨_, rfl⟩
    rw [← eq] at hfl hI ⊢
    have m2 := mul_bd hI.1 hI.2 c1 c2
    obtain ⟨p, ep⟩ : ∃ p, p = a * b := ⟨_, rfl⟩
    rw [← ep] at hfl m1 ⊢
    refine evPos rfl (evSome (wideMul q c hI.1 hI.2 c1 c2) (evSome (wideSub (p := p) (q := q * c) (by omega) (by omega)) ?_))
    have hx : ex p c = ((p - q * c) / 18446744073709551616 == 0 && ((p - q * c) % 18446744073709551616 == 0)) := by
      unfold ex
      rw [Bool.eq_iff_iff, decide_eq_true_eq, Bool.and_eq_true, beq_iff_eq, beq_iff_eq]
      have h1 : p % c = (p - q * c) % c := by rw [Int.sub_mul_emod_self_right]
      rw [h1]
      constructor
      · intro h
        have hz : p - q * c = 0 := by
          obtain ⟨t, ht⟩ := Int.dvd_of_emod_eq_zero h
          have : t = 0 := by
            rcases hfl with ⟨g1, g2, g3⟩ | ⟨g1, g2, g3⟩
            · have t1 : t < 1 := by
                rcases Int.lt_or_le t 1 with h | h
                · exact h
                · have := Int.mul_le_mul_of_nonneg_left h (show 0 ≤ c by omega); omega
              have t2 : -1 < t := by
                rcases Int.lt_or_le (-1) t with h | h
                · exact h
                · have := Int.mul_le_mul_of_nonneg_left h (show 0 ≤ c by omega); omega
              omega
            · have t1 : t < 1 := by
                rcases Int.lt_or_le t 1 with h | h
                · exact h
                · have := Int.mul_le_mul_of_nonneg_left h (show 0 ≤ -c by omega); rw [Int.neg_mul, Int.neg_mul] at this; omega
              have t2 : -1 < t := by
                rcases Int.lt_or_le (-1) t with h | h
                · exact h
                · have := Int.mul_le_mul_of_nonneg_left h (show 0 ≤ -c by omega); rw [Int.neg_mul, Int.neg_mul] at this; omega
              omega
          subst this
          omega
        rw [hz]
        decide
      · intro h
        have hz : p - q * c = 0 := by omega
        rw [hz]
        simp
    refine evNeg (by rw [hx]; simp) ?_
    by_cases cp : c > 0
    · rcases hfl with ⟨g1, g2, g3⟩ | ⟨g1, g2, g3⟩
      · refine evPos cp (Ev.bind (signEv _) (evPos ?_ (evSome (ofEq c c1 c2) (Ev.bind (wideCmp _ _) (evPos ?_ aw)))))
        · unfold sgn; split <;> (try split) <;> omega
        · rw [sgn_neg (by omega)]; decide
      · omega
    · rcases hfl with ⟨g1, g2, g3⟩ | ⟨g1, g2, g3⟩
      · omega
      · refine evNeg cp (Ev.bind (signEv _) (evPos ?_ (evSome (ofEq c c1 c2) (Ev.bind (wideCmp _ _) (evPos ?_ aw)))))
        · unfold sgn; split <;> (try split) <;> omega
        · rw [sgn_pos (by omega)]; decide
  · have e : mdV a b c = (0, false, 10) := by unfold mdV; rw [if_neg c0, if_neg hI]
    rw [e]
    obtain ⟨q, eq⟩ : ∃ q, q = fl (a * b) c := ⟨_, rfl⟩
    rw [← eq] at hfl hI
    obtain ⟨p, ep⟩ : ∃ p, p = a * b := ⟨_, rfl⟩
    rw [← ep] at hfl m1 ⊢
    have m3 := mul_bd (a := 9223372036854775807) (by decide) (by decide) c1 c2
    have m4 := mul_bd (a := -9223372036854775808) (by decide) (by decide) c1 c2
    refine evNeg (by simp) (evSome (wideMul 9223372036854775807 c (by decide) (by decide) c1 c2) (evSome (ofEq c c1 c2) (evSome (wideAdd (p := 9223372036854775807 * c) (q := c) (by omega) (by omega)) (evSome (wideMul (-9223372036854775808) c (by decide) (by decide) c1 c2) ?_))))
    have hq : q ≥ 9223372036854775808 ∨ q ≤ -9223372036854775809 := by
      unfold I64 at hI
      omega
    by_cases cn : c < 0
    · refine evPos cn (evPos rfl (evPos rfl (evNeg (by simp) (Ev.bind (wideCmp _ _) ?_))))
      by_cases k1 : sgn (p - (9223372036854775807 * c + c)) ≤ 0
      · exact evPos k1 aw
      refine evNeg k1 (Ev.bind (wideCmp _ _) (evPos ?_ aw))
      have k2 : p > 9223372036854775807 * c + c := by
        unfold sgn at k1
        split at k1
        · omega
        · split at k1 <;> omega
      rw [sgn_pos ?_]
      · decide
      rcases hfl with ⟨g1, _⟩ | ⟨g1, g2, g3⟩
      · omega
      rcases hq with hq | hq
      · have := Int.mul_le_mul_of_nonneg_right hq (show 0 ≤ -c by omega)
        rw [Int.mul_neg, Int.mul_neg] at this
        omega
      · have := Int.mul_le_mul_of_nonneg_right hq (show 0 ≤ -c by omega)
        rw [Int.mul_neg, Int.mul_neg] at this
        omega
    · refine evNeg cn (evPos rfl (evPos rfl (evNeg (by simp) (Ev.bind (wideCmp _ _) ?_))))
      by_cases k1 : sgn (p - (9223372036854775807 * c + c)) ≥ 0
      · exact evPos k1 aw
      refine evNeg k1 (Ev.bind (wideCmp _ _) (evPos ?_ aw))
      have k2 : p < 9223372036854775807 * c + c := by
        unfold sgn at k1
        split at k1
        · omega
        · split at k1 <;> omega
      rw [sgn_neg ?_]
      · decide
      rcases hfl with ⟨g1, g2, g3⟩ | ⟨g1, _⟩
      · rcases hq with hq | hq
        · have := Int.mul_le_mul_of_nonneg_right hq (show 0 ≤ c by omega)
          omega
        · have := Int.mul_le_mul_of_nonneg_right hq (show 0 ≤ c by omega)
          omega
      · omega
end Go.Proofs.Ytjgkommhdodghaa.Pure
