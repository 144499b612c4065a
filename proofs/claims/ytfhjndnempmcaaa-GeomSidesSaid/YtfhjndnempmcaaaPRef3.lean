/- What the printed functions of the reference of layer 3 come to: products, sides, windings. Conditions: points in room. -/
import Derived.Test.YtfhjndnempmcaaaXx8
import Derived.Test.YtfhjndnempmcaaaPSide
namespace Go.Proofs.Ytfhjndnempmcaaa.PRef3
open Go.RowKit Go.Proofs.YtfhjndnempmcaaaW.PrintWords Go.Proofs.Ytfhjndnempmcaaa.X Go.Proofs.Ytfhjndnempmcaaa.PNum Go.Proofs.Ytfhjndnempmcaaa.PWide Go.Proofs.Ytfhjndnempmcaaa.PGeo Go.Proofs.Ytfhjndnempmcaaa.PSide

theorem sgn_mul_pos {a b : Int} (ha : 0 < a) (hb : 0 < b) : sgn (a * b) = 1 := sgn_pos (Int.mul_pos ha hb)
/-- The parts of a product of two numbers from 0 on. -/
theorem partsOf (a b : Int) (ha : 0 ≤ a) (ha' : a ≤ 8589934592) (hb : 0 ≤ b) (hb' : b ≤ 8589934592) :
    wrap64 ((wrap64 ((wrap64 (Int.tdiv a 65536)) * b)) + (wrap64 (Int.tdiv (wrap64 ((Int.tmod a 65536) * b)) 65536))) = a * b / 65536 ∧ Int.tmod (wrap64 ((Int.tmod a 65536) * b)) 65536 = a * b % 65536 := by
  have e1 : Int.tdiv a 65536 = a / 65536 := Int.tdiv_eq_ediv_of_nonneg ha
  have e2 : Int.tmod a 65536 = a % 65536 := Int.tmod_eq_emod_of_nonneg ha
  rw [e1, e2, w64' (n := a / 65536) (by omega) (by omega)]
  have b1 : 0 ≤ (a % 65536) * b := Int.mul_nonneg (by omega) hb
  have b2 : (a % 65536) * b ≤ 65536 * 8589934592 := Int.mul_le_mul (by omega) hb' hb (by omega)
  have b3 : 0 ≤ (a / 65536) * b := Int.mul_nonneg (by omega) hb
  have b4 : (a / 65536) * b ≤ 131072 * 8589934592 := Int.mul_le_mul (by omega) hb' hb (by omega)
  rw [w64' (n := (a % 65536) * b) (by omega) (by omega), w64' (n := (a / 65536) * b) (by omega) (by omega)]
  rw [Int.tdiv_eq_ediv_of_nonneg b1, Int.tmod_eq_emod_of_nonneg b1]
  have e : a * b = 65536 * ((a / 65536) * b) + (a % 65536) * b := by
    rw [← Int.mul_assoc, ← Int.add_mul, Int.mul_ediv_add_emod]
  rw [e]
  generalize (a / 65536) * b = p at *
  generalize (a % 65536) * b = q at *
  unfold wrap64
  omega
/-- A number from its sign and its size. -/
def nab (x : Int) : Int := if x < 0 then -x else x
theorem nab_neg (x : Int) : nab (-x) = nab x := by unfold nab; split <;> split <;> omega
theorem nab_nonneg (x : Int) : 0 ≤ nab x := by unfold nab; split <;> omega
theorem prodEv (a b : Int) (ha : -8589934592 ≤ a) (ha' : a ≤ 8589934592) (hb : -8589934592 ≤ b) (hb' : b ≤ 8589934592) :
    Ev (fun k => limnerref03_product.f k a b) (sgn (a * b), nab (a * b) / 65536, nab (a * b) % 65536) := by
  have step : ∀ (x s : Int), 0 ≤ x → x ≤ 8589934592 → (s = 1 ∨ s = -1) → Ev (fun k => limnerref03_product.j0 k x b s) (s * sgn (x * b), nab (x * b) / 65536, nab (x * b) % 65536) := by
    intro x s h0 h1 hs
    refine Ev.step (fun _ => limnerref03_product.j0.eq_2 ..) ?_
    by_cases c1 : b < 0
    · refine evPos c1 ?_
      by_cases c2 : x = 0
      · refine evPos c2 ?_
        subst c2
        simp only [Int.zero_mul, sgn_zero, Int.mul_zero]
        exact Ev.now _
      · refine evNeg c2 ?_
        rw [w64' (n := -b) (by omega) (by omega)]
        refine evNeg (show ¬ (-b = 0) by omega) ?_
        obtain ⟨p1, p2⟩ := partsOf x (-b) h0 h1 (by omega) (by omega)
        rw [p1, p2]
        have hpos : 0 < x * (-b) := Int.mul_pos (by omega) (by omega)
        have e1 : sgn (x * b) = -1 := by rw [Int.mul_neg] at hpos; exact sgn_neg (by omega)
        have e2 : nab (x * b) = x * (-b) := by rw [Int.mul_neg] at *; unfold nab; rw [if_pos (by omega)]
        rw [e1, e2]
        have e3 : wrap64 (-s) = s * -1 := by rcases hs with rfl | rfl <;> (unfold wrap64; omega)
        rw [e3]
        exact Ev.now _
    · refine evNeg c1 ?_
      by_cases c2 : x = 0
      · refine evPos c2 ?_
        subst c2
        simp only [Int.zero_mul, sgn_zero, Int.mul_zero]
        exact Ev.now _
      · refine evNeg c2 ?_
        by_cases c3 : b = 0
        · refine evPos c3 ?_
          subst c3
          simp only [Int.mul_zero, sgn_zero]
          exact Ev.now _
        · refine evNeg c3 ?_
          obtain ⟨p1, p2⟩ := partsOf x b h0 h1 (by omega) (by omega)
          rw [p1, p2]
          have hpos : 0 < x * b := Int.mul_pos (by omega) (by omega)
          have e2 : nab (x * b) = x * b := by unfold nab; rw [if_neg (by omega)]
          rw [sgn_pos hpos, e2, Int.mul_one]
          exact Ev.now _
  unfold limnerref03_product.f
  by_cases c : a < 0
  · refine evPos c ?_
    rw [w64' (n := -a) (by omega) (by omega)]
    have h := step (-a) (-1) (by omega) (by omega) (.inr rfl)
    rw [Int.neg_mul a b, sgn_neg', nab_neg] at h
    simpa using h
  · refine evNeg c ?_
    have h := step a 1 (by omega) (by omega) (.inl rfl)
    simpa using h
theorem refSideEv (ax ay bx b_y cx cy : Int) (ha : RP (ax, ay)) (hb : RP (bx, b_y)) (hc : RP (cx, cy)) : Ev (fun k => limnerref03_Side.f k ax ay bx b_y cx cy) (sgn (cr (ax, ay) (bx, b_y) (cx, cy))) := by
  obtain ⟨⟨h1, h2⟩, h3, h4⟩ := ha
  obtain ⟨⟨h5, h6⟩, h7, h8⟩ := hb
  obtain ⟨⟨h9, h10⟩, h11, h12⟩ := hc
  simp only at h1 h2 h3 h4 h5 h6 h7 h8 h9 h10 h11 h12
  unfold limnerref03_Side.f
  rw [w64' (n := bx - ax) (by omega) (by omega), w64' (n := cy - ay) (by omega) (by omega), w64' (n := b_y - ay) (by omega) (by omega), w64' (n := cx - ax) (by omega) (by omega)]
  refine Ev.bind (prodEv (bx - ax) (cy - ay) (by omega) (by omega) (by omega) (by omega)) ?_
  refine Ev.bind (prodEv (b_y - ay) (cx - ax) (by omega) (by omega) (by omega) (by omega)) ?_
  show Ev _ (sgn ((bx - ax) * (cy - ay) - (b_y - ay) * (cx - ax)))
  generalize (bx - ax) * (cy - ay) = p
  generalize (b_y - ay) * (cx - ax) = q
  have fin : ∀ (x : Bool), x = true → sgn p = sgn q → nab p = nab q → Ev (fun k => limnerref03_Side.j0 k (sgn p) (nab p / 65536) (nab p % 65536) (nab q / 65536) (nab q % 65536) x) (sgn (p - q)) := by
    intro x hx e1 e2
    refine Ev.step (fun _ => limnerref03_Side.j0.eq_2 ..) (evPos hx ?_)
    have : p = q := by unfold sgn nab at *; repeat' split at e1; all_goals (repeat' split at e2; all_goals omega)
    subst this
    rw [Int.sub_self, sgn_zero]
    exact Ev.now _
  have gt : sgn p = sgn q → nab p > nab q → sgn (p - q) = sgn p := by
    intro e1 e2
    unfold sgn nab at *
    repeat' split at e1
    all_goals (repeat' split at e2)
    all_goals (repeat' split)
    all_goals omega
  have lt : sgn p = sgn q → nab p < nab q → sgn (p - q) = -sgn p := by
    intro e1 e2
    unfold sgn nab at *
    repeat' split at e1
    all_goals (repeat' split at e2)
    all_goals (repeat' split)
    all_goals omega
  have other : sgn p = sgn q → nab p ≠ nab q → Ev (fun k => limnerref03_Side.j0 k (sgn p) (nab p / 65536) (nab p % 65536) (nab q / 65536) (nab q % 65536) false) (sgn (p - q)) := by
    intro e1 e2
    refine Ev.step (fun _ => limnerref03_Side.j0.eq_2 ..) (evNeg (by simp) ?_)
    have hw : wrap64 (-sgn p) = -sgn p := by have := sgn_bd p; unfold wrap64; omega
    rw [hw]
    have n1 := nab_nonneg p
    have n2 := nab_nonneg q
    by_cases c1 : nab p / 65536 > nab q / 65536
    · refine evPos c1 ?_
      rw [gt e1 (by omega)]
      exact Ev.now _
    · refine evNeg c1 ?_
      by_cases c2 : nab p / 65536 = nab q / 65536
      · refine evPos c2 ?_
        by_cases c3 : nab p % 65536 > nab q % 65536
        · refine evPos c3 ?_
          rw [gt e1 (by omega)]
          exact Ev.now _
        · refine evNeg c3 ?_
          rw [lt e1 (by omega)]
          exact Ev.now _
      · refine evNeg c2 ?_
        rw [lt e1 (by omega)]
        exact Ev.now _
  by_cases c1 : sgn p = sgn q
  · refine evPos c1 ?_
    by_cases c2 : nab p / 65536 = nab q / 65536
    · refine evPos c2 ?_
      by_cases c3 : nab p % 65536 = nab q % 65536
      · have hb : (nab p % 65536 == nab q % 65536) = true := by simpa using c3
        exact fin _ hb c1 (by omega)
      · have hb : (nab p % 65536 == nab q % 65536) = false := by simpa using c3
        simp only [hb]
        exact other c1 (by omega)
    · refine evNeg c2 ?_
      exact other c1 (by intro h; rw [h] at c2; exact c2 rfl)
  · refine evNeg c1 ?_
    by_cases c2 : sgn p > sgn q
    · refine evPos c2 ?_
      have : sgn (p - q) = 1 := by unfold sgn at *; repeat' split at c2; all_goals (repeat' split; all_goals omega)
      rw [this]
      exact Ev.now _
    · refine evNeg c2 ?_
      have : sgn (p - q) = -1 := by unfold sgn at *; repeat' split at c2; all_goals (repeat' split at c1; all_goals (repeat' split; all_goals omega))
      rw [this]
      exact Ev.now _
end Go.Proofs.Ytfhjndnempmcaaa.PRef3
