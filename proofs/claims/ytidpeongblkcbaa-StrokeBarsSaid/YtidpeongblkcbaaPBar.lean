/- What stroke.Bar and its reference come to. Conditions: those that each theorem names. -/
import Derived.Test.YtidpeongblkcbaaXx0
import Derived.Test.YtidpeongblkcbaaXx10
import Derived.Test.YtidpeongblkcbaaXx11
import Derived.Test.YtidpeongblkcbaaXx2
import Derived.Test.YtidpeongblkcbaaXx3
import Derived.Test.YtidpeongblkcbaaXx4
import Derived.Test.YtidpeongblkcbaaXx5
import Derived.Test.YtidpeongblkcbaaXx6
import Derived.Test.YtidpeongblkcbaaXx7
import Derived.Test.YtidpeongblkcbaaXx8
import Derived.Test.YtidpeongblkcbaaXx9
import Derived.Test.YtidpeongblkcbaaPNum
import Derived.Test.YtidpeongblkcbaaPRoot
namespace Go.Proofs.Ytidpeongblkcbaa.PBar
open Go.RowKit Go.Proofs.YtidpeongblkcbaaW.PrintWords Go.Proofs.Ytidpeongblkcbaa.X Go.Proofs.Ytidpeongblkcbaa.PNum Go.Proofs.Ytidpeongblkcbaa.PRoot

def R31 (a : Int) : Prop := -2147483648 ≤ a ∧ a ≤ 2147483648
instance (a : Int) : Decidable (R31 a) := by unfold R31; infer_instance
def inB (x y : Int) : Bool := decide (R31 x ∧ R31 y)
theorem inE {x y : Int} (h : inB x y = true) : R31 x ∧ R31 y := of_decide_eq_true h
theorem fixedIn (a : Int) : fixed_In.f a = some (decide (R31 a)) := by
  unfold fixed_In.f
  split
  · exact congrArg some (decide_eq_decide.2 (by unfold R31; omega))
  · exact congrArg some (decide_eq_false (by unfold R31; omega)).symm
theorem refIn (a : Int) : limnerref01_In.f a = some (decide (R31 a)) := by
  unfold limnerref01_In.f
  split
  · exact congrArg some (decide_eq_decide.2 (by unfold R31; omega))
  · exact congrArg some (decide_eq_false (by unfold R31; omega)).symm
theorem andB {P Q : Prop} [Decidable P] [Decidable Q] : (if decide P = true then some (decide Q) else some false) = some (decide (P ∧ Q)) := by
  by_cases h : P
  · simp [h]
  · simp [h]
theorem pointIn (x y : Int) : geom_Point_In.f x y = some (inB x y) := by
  unfold geom_Point_In.f
  rw [fixedIn, fixedIn]
  exact andB
/-- Divided and rounded, halves upward. -/
def rd2 (p d : Int) : Int := (2 * p + d) / (2 * d)
theorem rd2_bd {p d : Int} (hd : 0 < d) (h1 : -35184372088832 ≤ p) (h2 : p ≤ 35184372088832) : -35184372088833 ≤ rd2 p d ∧ rd2 p d ≤ 35184372088833 := by
  unfold rd2
  constructor
  · refine Int.le_ediv_of_mul_le (by omega) ?_
    have := Int.mul_le_mul_of_nonneg_left (show (1 : Int) ≤ d by omega) (show (0 : Int) ≤ 35184372088833 by decide)
    omega
  · have : (2 * p + d) / (2 * d) < 35184372088834 := by
      refine Int.ediv_lt_of_lt_mul (by omega) ?_
      have := Int.mul_le_mul_of_nonneg_left (show (1 : Int) ≤ d by omega) (show (0 : Int) ≤ 35184372088833 by decide)
      omega
    omega
theorem tdiv_floor {n m : Int} (hm : 0 < m) : (if Int.tmod n m < 0 then Int.tdiv n m - 1 else Int.tdiv n m) = n / m := by
  have e := Int.mul_tdiv_add_tmod n m
  have f := Int.mul_ediv_add_emod n m
  have f1 := Int.emod_nonneg n (show m ≠ 0 by omega)
  have f2 := Int.emod_lt_of_pos n hm
  rcases Int.le_total 0 n with h | h
  · have h1 := Int.tmod_nonneg m h
    rw [if_neg (by omega), Int.tdiv_eq_ediv_of_nonneg h]
  · have hx : Int.tmod n m = -((-n) % m) := by
      have : Int.tmod (-n) m = (-n) % m := Int.tmod_eq_emod_of_nonneg (by omega)
      rw [Int.neg_tmod] at this
      omega
    have hq : Int.tdiv n m = -((-n) / m) := by
      have : Int.tdiv (-n) m = (-n) / m := Int.tdiv_eq_ediv_of_nonneg (by omega)
      rw [Int.neg_tdiv] at this
      omega
    have g := Int.mul_ediv_add_emod (-n) m
    have g1 := Int.emod_nonneg (-n) (show m ≠ 0 by omega)
    have g2 := Int.emod_lt_of_pos (-n) hm
    rw [hx, hq]
    obtain ⟨A, eA⟩ : ∃ A, A = n / m := ⟨_, rfl⟩
    obtain ⟨B, eB⟩ : ∃ B, B = (-n) / m := ⟨_, rfl⟩
    obtain ⟨R, eR⟩ : ∃ R, R = n % m := ⟨_, rfl⟩
    obtain ⟨S, eS⟩ : ∃ S, S = (-n) % m := ⟨_, rfl⟩
    rw [← eA, ← eR] at f
    rw [← eR] at f1 f2
    rw [← eB, ← eS] at g
    rw [← eS] at g1 g2
    rw [← eA, ← eB, ← eS]
    have k : m * (A + B) + (R + S) = 0 := by rw [Int.mul_add]; omega
    have k1 : A + B < 1 := by
      rcases Int.lt_or_le (A + B) 1 with h | h
      · exact h
      · have := Int.mul_le_mul_of_nonneg_left h (show 0 ≤ m by omega); omega
    have k2 : -2 < A + B := by
      rcases Int.lt_or_le (-2) (A + B) with h | h
      · exact h
      · have := Int.mul_le_mul_of_nonneg_left h (show 0 ≤ m by omega); omega
    have k3 : A + B = 0 ∨ A + B = -1 := by omega
    rcases k3 with k3 | k3
    · rw [k3] at k
      rw [if_neg (by omega)]
      omega
    · rw [k3] at k
      rw [if_pos (by omega)]
      omega
theorem partEq {a h d : Int} (hd : 0 < d) (hd2 : d ≤ 4294967296) (h1 : -1073741824 ≤ a) (h2 : a ≤ 1073741824) (h3 : 1 ≤ h) (h4 : h ≤ 32768) : stroke_part.f a h d = some (rd2 (a * h) d) := by
  have m : -35184372088832 ≤ a * h ∧ a * h ≤ 35184372088832 := by
    rcases Int.le_total 0 a with g | g
    · have := Int.mul_le_mul h2 h4 (by omega) (by decide)
      have := Int.mul_nonneg g (show 0 ≤ h by omega)
      omega
    · have := Int.mul_le_mul (show -a ≤ 1073741824 by omega) h4 (by omega) (by decide)
      have := Int.mul_nonneg (show 0 ≤ -a by omega) (show 0 ≤ h by omega)
      rw [Int.neg_mul] at *
      omega
  have b := rd2_bd hd m.1 m.2
  unfold stroke_part.f
  have e0 : wrap64 (2 * d) = 2 * d := w64' (by omega) (by omega)
  have e1 : wrap64 (2 * a) = 2 * a := w64' (by omega) (by omega)
  have e2 : wrap64 (2 * a * h) = 2 * (a * h) := by rw [Int.mul_assoc]; exact w64' (by omega) (by omega)
  have e3 : wrap64 (2 * (a * h) + d) = 2 * (a * h) + d := w64' (by omega) (by omega)
  rw [e0, e1, e2, e3, if_neg (by omega)]
  have t := tdiv_floor (n := 2 * (a * h) + d) (m := 2 * d) (by omega)
  have b2 : (2 * (a * h) + d) / (2 * d) = rd2 (a * h) d := rfl
  by_cases c : Int.tmod (2 * (a * h) + d) (2 * d) < 0
  · rw [if_pos c] at t ⊢
    rw [w64' (n := Int.tdiv (2 * (a * h) + d) (2 * d)) (by omega) (by omega), w64' (by omega) (by omega), t]
    rfl
  · rw [if_neg c] at t ⊢
    rw [w64' (by omega) (by omega), t]
    rfl
theorem emod_le' {x d : Int} (h : 0 ≤ x) (hd : 0 < d) : x % d ≤ x := by
  have := Int.mul_ediv_add_emod x d
  have := Int.mul_nonneg (show 0 ≤ d by omega) (Int.ediv_nonneg h (show 0 ≤ d by omega))
  omega
theorem belowEq {p d : Int} (hd : 0 < d) (h1 : -70368744177664 ≤ p) (h2 : p ≤ 70368744177664) : limnerref01_Below.f p d = some (p / d) := by
  unfold limnerref01_Below.f
  rw [if_neg (by omega)]
  have t := tdiv_floor (n := p) (m := d) hd
  have e := Int.mul_tdiv_add_tmod p d
  have q1 : -70368744177665 ≤ p / d ∧ p / d ≤ 70368744177665 := by
    constructor
    · refine Int.le_ediv_of_mul_le hd ?_
      have := Int.mul_le_mul_of_nonneg_left (show (1 : Int) ≤ d by omega) (show (0 : Int) ≤ 70368744177665 by decide)
      omega
    · have : p / d < 70368744177666 := by
        refine Int.ediv_lt_of_lt_mul hd ?_
        have := Int.mul_le_mul_of_nonneg_left (show (1 : Int) ≤ d by omega) (show (0 : Int) ≤ 70368744177666 by decide)
        omega
      omega
  have g1 : -d < Int.tmod p d := by
    rcases Int.le_total 0 p with h | h
    · have := Int.tmod_nonneg d h; omega
    · have hx : Int.tmod p d = -((-p) % d) := by
        have : Int.tmod (-p) d = (-p) % d := Int.tmod_eq_emod_of_nonneg (by omega)
        rw [Int.neg_tmod] at this
        omega
      have := Int.emod_lt_of_pos (-p) hd
      omega
  have g2 : Int.tmod p d < d := Int.tmod_lt_of_pos p hd
  have ht : -70368744177665 ≤ Int.tdiv p d ∧ Int.tdiv p d ≤ 70368744177666 := by split at t <;> omega
  have e1 : wrap64 (Int.tdiv p d) = Int.tdiv p d := w64' (by omega) (by omega)
  have em : Int.tdiv p d * d = p - Int.tmod p d := by rw [Int.mul_comm]; omega
  rw [e1, em]
  by_cases c : Int.tmod p d < 0
  · rw [if_pos c] at t
    have hp : p < 0 := by
      rcases Int.lt_or_le p 0 with h | h
      · exact h
      · have := Int.tmod_nonneg d h; omega
    have hx : Int.tmod p d = -((-p) % d) := by
      have : Int.tmod (-p) d = (-p) % d := Int.tmod_eq_emod_of_nonneg (by omega)
      rw [Int.neg_tmod] at this
      omega
    have hy : (-p) % d ≤ -p := emod_le' (by omega) hd
    have hb : p - Int.tmod p d ≤ 0 ∧ p ≤ p - Int.tmod p d := by omega
    rw [w64' (n := p - Int.tmod p d) (by omega) (by omega), if_pos (by omega), w64' (by omega) (by omega), t]
  · rw [if_neg c] at t
    have hb : p - Int.tmod p d ≥ -140737488355328 := by
      rcases Int.lt_or_le p 0 with h | h
      · have hz : Int.tmod p d ≤ 0 := by
          have hx : Int.tmod (-p) d = (-p) % d := Int.tmod_eq_emod_of_nonneg (by omega)
          rw [Int.neg_tmod] at hx
          have := Int.emod_nonneg (-p) (show d ≠ 0 by omega)
          omega
        omega
      · have : Int.tmod p d ≤ p := by rw [Int.tmod_eq_emod_of_nonneg h]; exact emod_le' h hd
        omega
    rw [w64' (n := p - Int.tmod p d) (by omega) (by omega), if_neg (by omega), t]
theorem roundEq {p d : Int} (hd : 0 < d) (hd2 : d ≤ 4294967296) (h1 : -35184372088832 ≤ p) (h2 : p ≤ 35184372088832) : limnerref01_Round.f p d = some (rd2 p d) := by
  unfold limnerref01_Round.f
  rw [belowEq hd (by omega) (by omega)]
  simp only [Option.bind_some]
  have e := Int.mul_ediv_add_emod p d
  have r0 := Int.emod_nonneg p (show d ≠ 0 by omega)
  have r1 := Int.emod_lt_of_pos p hd
  have b := rd2_bd hd h1 h2
  obtain ⟨f, ef⟩ : ∃ f, f = p / d := ⟨_, rfl⟩
  obtain ⟨r, er⟩ : ∃ r, r = p % d := ⟨_, rfl⟩
  rw [← er] at r0 r1
  rw [← ef, ← er, Int.mul_comm] at e
  rw [← ef]
  have fb : -35184372088834 ≤ f ∧ f ≤ 35184372088834 := by
    constructor
    · rcases Int.lt_or_le f (-35184372088834) with h | h
      · have := Int.mul_le_mul_of_nonneg_right (show f ≤ -35184372088835 by omega) (show 0 ≤ d by omega)
        have := Int.mul_le_mul_of_nonneg_left (show (1 : Int) ≤ d by omega) (show (0 : Int) ≤ 35184372088835 by decide)
        rw [Int.neg_mul] at *
        omega
      · exact h
    · rcases Int.lt_or_le 35184372088834 f with h | h
      · have := Int.mul_le_mul_of_nonneg_right (show 35184372088835 ≤ f by omega) (show 0 ≤ d by omega)
        have := Int.mul_le_mul_of_nonneg_left (show (1 : Int) ≤ d by omega) (show (0 : Int) ≤ 35184372088835 by decide)
        omega
      · exact h
  have e1 : f * d = p - r := by omega
  rw [e1, w64' (n := p - r) (by omega) (by omega), w64' (n := p - (p - r)) (by omega) (by omega), w64' (n := d - (p - (p - r))) (by omega) (by omega), w64' (n := f + 1) (by omega) (by omega)]
  have key : ∀ q : Int, q * d * 2 ≤ 2 * p + d → 2 * p + d < q * d * 2 + 2 * d → rd2 p d = q := by
    intro q g1 g2
    unfold rd2
    rw [Int.ediv_eq_iff_of_pos (by omega), Int.mul_comm 2 d, ← Int.mul_assoc]
    omega
  by_cases c : p - (p - r) ≥ d - (p - (p - r))
  · rw [if_pos c, key (f + 1) (by rw [Int.add_mul, Int.one_mul, e1]; omega) (by rw [Int.add_mul, Int.one_mul, e1]; omega)]
  · rw [if_neg c, key f (by rw [e1]; omega) (by rw [e1]; omega)]
theorem rootUniq {n p q : Int} (hp : 0 ≤ p) (hq : 0 ≤ q) (p1 : p * p ≤ n) (p2 : n < (p + 1) * (p + 1)) (q1 : q * q ≤ n) (q2 : n < (q + 1) * (q + 1)) : p = q := by
  rcases Int.lt_or_le p q with h | h
  · have := Int.mul_le_mul (show p + 1 ≤ q by omega) (show p + 1 ≤ q by omega) (by omega) hq
    omega
  · rcases Int.lt_or_le q p with h' | h'
    · have := Int.mul_le_mul (show q + 1 ≤ p by omega) (show q + 1 ≤ p by omega) (by omega) hp
      omega
    · omega
theorem refRootLoop {n q : Int} (hq : 0 ≤ q) (q1 : q * q ≤ n) (q2 : n < (q + 1) * (q + 1)) :
    ∀ (m : Nat) (lo hi : Int), hi - lo ≤ m + 1 → 0 ≤ lo → lo < hi → hi ≤ 1073741825 → lo * lo ≤ n → n < hi * hi → Ev (fun k => limnerref07_Root.l0 k n lo hi) q := by
  intro m
  induction m with
  | zero =>
    intro lo hi h1 h2 h3 h4 h5 h6
    have : hi = lo + 1 := by omega
    subst this
    have := rootUniq h2 hq h5 h6 q1 q2
    subst this
    refine Ev.step (fun _ => limnerref07_Root.l0.eq_2 ..) (evNeg ?_ (Ev.now _))
    rw [w64' (by omega) (by omega)]
    omega
  | succ m ih =>
    intro lo hi h1 h2 h3 h4 h5 h6
    by_cases c : hi - lo > 1
    · have e0 : wrap64 (hi - lo) = hi - lo := w64' (by omega) (by omega)
      have e1 : wrap64 (lo + hi) = lo + hi := w64' (by omega) (by omega)
      have e2 : Int.tdiv (lo + hi) 2 = (lo + hi) / 2 := Int.tdiv_eq_ediv_of_nonneg (by omega)
      obtain ⟨mid, em⟩ : ∃ mid, mid = (lo + hi) / 2 := ⟨_, rfl⟩
      have e3 : wrap64 mid = mid := w64' (by omega) (by omega)
      have mb := Int.mul_le_mul (show mid ≤ 1073741825 by omega) (show mid ≤ 1073741825 by omega) (show 0 ≤ mid by omega) (by decide)
      have mb0 := Int.mul_nonneg (show 0 ≤ mid by omega) (show 0 ≤ mid by omega)
      have e4 : wrap64 (mid * mid) = mid * mid := w64' (by omega) (by omega)
      refine Ev.step (fun _ => limnerref07_Root.l0.eq_2 ..) ?_
      rw [e0, e1, e2, ← em, e3, e4]
      refine evPos c ?_
      by_cases c2 : mid * mid ≤ n
      · exact evPos c2 (ih mid hi (by omega) (by omega) (by omega) h4 c2 h6)
      · exact evNeg c2 (ih lo mid (by omega) h2 (by omega) (by omega) h5 (by omega))
    · exact ih lo hi (by omega) h2 h3 h4 h5 h6
theorem refRootEv {n q : Int} (hq : 0 ≤ q) (q1 : q * q ≤ n) (q2 : n < (q + 1) * (q + 1)) (hn : 0 ≤ n) (hn2 : n ≤ 1152921504606846976) : Ev (fun k => limnerref07_Root.f k n) q := by
  unfold limnerref07_Root.f
  have big : (1073741825 : Int) * 1073741825 = 1152921506754330625 := by decide
  have hz : (0 : Int) * 0 = 0 := rfl
  exact refRootLoop hq q1 q2 1073741825 0 1073741825 (by decide) (by decide) (by decide) (by decide) (by omega) (by omega)
/-- The steps to the side and ahead, and the reference's. -/
theorem stepsEv {ax ay bx bY h : Int} (ha : R31 ax ∧ R31 ay) (hb : R31 bx ∧ R31 bY) (hne : ¬ (ax = bx ∧ ay = bY)) (h1 : 1 ≤ h) (h2 : h ≤ 32768)
    (dx : -536870912 ≤ bx - ax ∧ bx - ax ≤ 536870912) (dy : -536870912 ≤ bY - ay ∧ bY - ay ≤ 536870912) :
    ∃ L s t u v : Int, (0 ≤ L ∧ L * L ≤ (bx - ax) * (bx - ax) + (bY - ay) * (bY - ay) ∧ (bx - ax) * (bx - ax) + (bY - ay) * (bY - ay) < (L + 1) * (L + 1)) ∧ (s = rd2 (-(bY - ay) * h) L ∧ t = rd2 ((bx - ax) * h) L) ∧
      (-35184372088833 ≤ s ∧ s ≤ 35184372088833) ∧ (-35184372088833 ≤ t ∧ t ≤ 35184372088833) ∧
      Ev (fun k => stroke_steps.f k ax ay bx bY h) (s, t, u, v, 0) ∧ Ev (fun k => limnerref07_Steps.f k ax ay bx bY h) (s, t, u, v) := by
  obtain ⟨⟨x1, x2⟩, y1, y2⟩ := ha
  obtain ⟨⟨z1, z2⟩, w1, w2⟩ := hb
  obtain ⟨p, ep⟩ : ∃ p, p = bx - ax := ⟨_, rfl⟩
  obtain ⟨q, eq⟩ : ∃ q, q = bY - ay := ⟨_, rfl⟩
  rw [← ep] at dx
  rw [← eq] at dy
  have sq : ∀ z : Int, -536870912 ≤ z → z ≤ 536870912 → 0 ≤ z * z ∧ z * z ≤ 288230376151711744 ∧ (z ≠ 0 → 1 ≤ z * z) := by
    intro z g1 g2
    have key : ∀ y : Int, 0 ≤ y → y ≤ 536870912 → 0 ≤ y * y ∧ y * y ≤ 288230376151711744 ∧ (y ≠ 0 → 1 ≤ y * y) := by
      intro y k1 k2
      refine ⟨Int.mul_nonneg k1 k1, Int.le_trans (Int.mul_le_mul k2 k2 k1 (by decide)) (by decide), fun hz => ?_⟩
      have := Int.mul_le_mul (show 1 ≤ y by omega) (show 1 ≤ y by omega) (by decide) k1
      omega
    rcases Int.le_total 0 z with g | g
    · exact key z g g2
    · have := key (-z) (by omega) (by omega)
      rw [Int.neg_mul_neg] at this
      exact ⟨this.1, this.2.1, fun hz => this.2.2 (by omega)⟩
  obtain ⟨sp0, sp1, sp2⟩ := sq p dx.1 dx.2
  obtain ⟨sq0, sq1, sq2⟩ := sq q dy.1 dy.2
  have hpq : p ≠ 0 ∨ q ≠ 0 := by omega
  have n0 : 1 ≤ p * p + q * q := by
    rcases hpq with h | h
    · have := sp2 h; omega
    · have := sq2 h; omega
  obtain ⟨L, l0, l1, l2, _, l3⟩ := sqrtEv (n := p * p + q * q) ⟨by omega, by omega⟩
  obtain ⟨l4, l5⟩ := l2 (by omega)
  have lpos : 0 < L := by
    rcases Int.lt_or_le 0 L with h | h
    · exact h
    · have : L = 0 := by omega
      subst this
      simp at l5
      omega
  have mb : ∀ z : Int, -536870912 ≤ z → z ≤ 536870912 → -35184372088832 ≤ z * h ∧ z * h ≤ 35184372088832 := by
    intro z g1 g2
    rcases Int.le_total 0 z with g | g
    · have := Int.mul_le_mul g2 h2 (by omega) (by decide)
      have := Int.mul_nonneg g (show 0 ≤ h by omega)
      omega
    · have := Int.mul_le_mul (show -z ≤ 536870912 by omega) h2 (by omega) (by decide)
      have := Int.mul_nonneg (show 0 ≤ -z by omega) (show 0 ≤ h by omega)
      rw [Int.neg_mul] at *
      omega
  have m1 := mb (-q) (by omega) (by omega)
  have m2 := mb p (by omega) (by omega)
  have m3 := mb q (by omega) (by omega)
  have ex : wrap64 (bx - ax) = p := by rw [← ep]; exact w64' (by omega) (by omega)
  have ey : wrap64 (bY - ay) = q := by rw [← eq]; exact w64' (by omega) (by omega)
  have en : wrap64 (wrap64 (p * p) + wrap64 (q * q)) = p * p + q * q := by
    rw [w64' (n := p * p) (by omega) (by omega), w64' (n := q * q) (by omega) (by omega), w64' (by omega) (by omega)]
  have eq1 : wrap64 (-q) = -q := w64' (by omega) (by omega)
  refine ⟨L, rd2 (-q * h) L, rd2 (p * h) L, rd2 (p * h) L, rd2 (q * h) L, by rw [← ep, ← eq]; exact ⟨l0, l4, l5⟩, by rw [← ep, ← eq]; exact ⟨rfl, rfl⟩, rd2_bd lpos m1.1 m1.2, rd2_bd lpos m2.1 m2.2, ?_, ?_⟩
  · unfold stroke_steps.f stroke_less.f
    rw [ex, ey]
    have j : Ev (fun k => stroke_steps.j0 k h false 0 0 0 0 p q) (rd2 (-q * h) L, rd2 (p * h) L, rd2 (p * h) L, rd2 (q * h) L, 0) := by
      refine Ev.step (fun _ => stroke_steps.j0.eq_2 ..) (evNeg (by simp) ?_)
      rw [en, eq1]
      exact Ev.bind l3 (evSome (partEq lpos (by omega) (by omega) (by omega) h1 h2) (evSome (partEq lpos (by omega) (by omega) (by omega) h1 h2) (evSome (partEq lpos (by omega) (by omega) (by omega) h1 h2) (evSome (partEq lpos (by omega) (by omega) (by omega) h1 h2) (Ev.now _)))))
    refine evSome (rfl) (evNeg (by unfold mx; split <;> omega) ?_)
    have hd : decide (mn p q < -536870912) = false := decide_eq_false (by unfold mn; split <;> omega)
    simp only [hd]
    exact j
  · unfold limnerref07_Steps.f
    rw [ex, ey, en, eq1, w64' (n := -q * h) (by omega) (by omega), w64' (n := p * h) (by omega) (by omega), w64' (n := q * h) (by omega) (by omega)]
    exact Ev.bind (refRootEv l0 l4 l5 (by omega) (by omega)) (evSome (roundEq lpos (by omega) m1.1 m1.2) (evSome (roundEq lpos (by omega) m2.1 m2.2) (evSome (roundEq lpos (by omega) m2.1 m2.2) (evSome (roundEq lpos (by omega) m3.1 m3.2) (Ev.now _)))))
/-- A line too long. -/
theorem stepsLong {ax ay bx bY h : Int} (ha : R31 ax ∧ R31 ay) (hb : R31 bx ∧ R31 bY) (hl : ¬ ((-536870912 ≤ bx - ax ∧ bx - ax ≤ 536870912) ∧ (-536870912 ≤ bY - ay ∧ bY - ay ≤ 536870912))) :
    Ev (fun k => stroke_steps.f k ax ay bx bY h) (0, 0, 0, 0, 10) := by
  obtain ⟨⟨x1, x2⟩, y1, y2⟩ := ha
  obtain ⟨⟨z1, z2⟩, w1, w2⟩ := hb
  have ex : wrap64 (bx - ax) = bx - ax := w64' (by omega) (by omega)
  have ey : wrap64 (bY - ay) = bY - ay := w64' (by omega) (by omega)
  unfold stroke_steps.f stroke_less.f
  rw [ex, ey]
  refine evSome rfl ?_
  have j : Ev (fun k => stroke_steps.j0 k h true 0 0 0 0 (bx - ax) (bY - ay)) (0, 0, 0, 0, 10) := Ev.step (fun _ => stroke_steps.j0.eq_2 ..) (evPos rfl (Ev.now _))
  by_cases c : mx (bx - ax) (bY - ay) > 536870912
  · exact evPos c j
  · refine evNeg c ?_
    have hd : decide (mn (bx - ax) (bY - ay) < -536870912) = true := decide_eq_true (by unfold mx at c; unfold mn; split at c <;> split <;> omega)
    simp only [hd]
    exact j
abbrev Pt := S23
def pIn (p : Pt) : Bool := inB p.f0 p.f1
theorem idxLoop (l : List Pt) (hl : (l.length : Int) ≤ 4611686018427387904) : ∀ (n : Nat) (i : Int), i + n = l.length → 0 ≤ i →
    ∃ r : Int, (0 ≤ r ↔ (l.drop i.toNat).all pIn = false) ∧ Ev (fun k => geom_Point_32.l0 k l (l.length : Int) i) r := by
  intro n
  induction n with
  | zero =>
    intro i h1 h0
    refine ⟨-1, ?_, Ev.step (fun _ => geom_Point_32.l0.eq_2 ..) (evNeg (by omega) (Ev.now _))⟩
    have : l.drop i.toNat = [] := List.drop_eq_nil_of_le (by omega)
    rw [this]
    simp
  | succ n ih =>
    intro i h1 h0
    obtain ⟨r, hr1, hr2⟩ := ih (i + 1) (by omega) (by omega)
    have hlt : i.toNat < l.length := by omega
    have e : l.drop i.toNat = l[i.toNat] :: l.drop (i + 1).toNat := by
      rw [show (i + 1).toNat = i.toNat + 1 by omega]
      exact List.drop_eq_getElem_cons hlt
    have er : rd_T23 l i = l[i.toNat] := by
      unfold rd_T23
      rw [List.getD_eq_getElem?_getD, List.getElem?_eq_getElem hlt]
      rfl
    have f1 : stroke_room_f1.f (rd_T23 l i).f0 (rd_T23 l i).f1 = some (!pIn l[i.toNat]) := by
      unfold stroke_room_f1.f
      rw [pointIn, er]
      rfl
    by_cases c : pIn l[i.toNat] = true
    · refine ⟨r, ?_, Ev.step (fun _ => geom_Point_32.l0.eq_2 ..) (evPos (by omega) (evPos h0 (evPos (by omega) (evSome f1 (evNeg (by rw [c]; simp) ?_)))))⟩
      · rw [hr1, e, List.all_cons, c, Bool.true_and]
      · rw [w64' (by omega) (by omega)]
        exact hr2
    · refine ⟨i, ?_, Ev.step (fun _ => geom_Point_32.l0.eq_2 ..) (evPos (by omega) (evPos h0 (evPos (by omega) (evSome f1 (evPos (by simpa using c) (Ev.now _))))))⟩
      rw [e, List.all_cons]
      simp only [Bool.not_eq_true] at c
      rw [c]
      simp [h0]
theorem roomEv (l : List Pt) (hl : (l.length : Int) ≤ 4611686018427387904) : Ev (fun k => stroke_room.f k l) (if l.all pIn = true then (l, 0) else ([], 10)) := by
  obtain ⟨r, h1, h2⟩ := idxLoop l hl l.length 0 (by omega) (by decide)
  unfold stroke_room.f geom_Point_25.f geom_Point_32.f
  have h3 : Ev (fun k => (geom_Point_32.l0 k l (l.length : Int) 0).bind fun t => some (decide (t ≥ 0))) (decide (r ≥ 0)) := Ev.bind h2 (Ev.now _)
  refine Ev.bind h3 ?_
  simp only [Int.toNat_zero, List.drop_zero] at h1
  by_cases c : l.all pIn = true
  · rw [if_pos c]
    exact evNeg (by rw [c] at h1; simp at h1; simpa using h1) (Ev.now _)
  · rw [if_neg c]
    simp only [Bool.not_eq_true] at c
    exact evPos (by rw [c] at h1; simpa using h1) (Ev.now _)
theorem rightEq (h : Int) : stroke_right.f h = some (decide (1 ≤ h ∧ h ≤ 32768)) := by
  unfold stroke_right.f
  by_cases c : h ≥ 1
  · rw [if_pos c]
    exact congrArg some (decide_eq_decide.2 (by omega))
  · rw [if_neg c]
    exact congrArg some (decide_eq_false (by omega)).symm
def shortB (ax ay bx bY : Int) : Prop := (-536870912 ≤ bx - ax ∧ bx - ax ≤ 536870912) ∧ (-536870912 ≤ bY - ay ∧ bY - ay ≤ 536870912)
def okB (ax ay bx bY h : Int) : Prop := (1 ≤ h ∧ h ≤ 32768) ∧ inB ax ay = true ∧ inB bx bY = true ∧ ¬ (ax = bx ∧ ay = bY)
instance (ax ay bx bY : Int) : Decidable (shortB ax ay bx bY) := inferInstanceAs (Decidable (_ ∧ _))
instance (ax ay bx bY h : Int) : Decidable (okB ax ay bx bY h) := inferInstanceAs (Decidable (_ ∧ _))
def barL (ax ay bx bY s t : Int) : List Pt := [⟨ax - s, ay - t⟩, ⟨bx - s, bY - t⟩, ⟨bx + s, bY + t⟩, ⟨ax + s, ay + t⟩]
theorem barBad {ax ay bx bY h : Int} (hn : ¬ okB ax ay bx bY h) : Ev (fun k => stroke_Bar.f k ax ay bx bY h) ([], 30) := by
  unfold stroke_Bar.f
  have j : Ev (fun k => stroke_Bar.j0 k h true ax ay bx bY) ([], 30) := Ev.step (fun _ => stroke_Bar.j0.eq_2 ..) (evPos rfl (Ev.now _))
  refine evSome (rightEq h) ?_
  by_cases c1 : 1 ≤ h ∧ h ≤ 32768
  · refine evPos (decide_eq_true c1) (evSome (pointIn ..) ?_)
    by_cases c2 : inB ax ay = true
    · refine evPos c2 (evSome (pointIn ..) ?_)
      by_cases c3 : inB bx bY = true
      · have c4 : ax = bx ∧ ay = bY := Decidable.byContradiction fun g => hn ⟨c1, c2, c3, g⟩
        have e : (ax == bx && (ay == bY)) = true := by simp [c4.1, c4.2]
        rw [e]
        exact evPos c3 j
      · exact evNeg c3 j
    · exact evNeg c2 j
  · exact evNeg (by simpa using c1) j
theorem barGo {ax ay bx bY h : Int} (ho : okB ax ay bx bY h) {r : List Pt × Int} (hj : Ev (fun k => stroke_Bar.j0 k h false ax ay bx bY) r) : Ev (fun k => stroke_Bar.f k ax ay bx bY h) r := by
  obtain ⟨c1, c2, c3, c4⟩ := ho
  unfold stroke_Bar.f
  have e : (ax == bx && (ay == bY)) = false := by
    rw [Bool.eq_false_iff]
    intro g
    rw [Bool.and_eq_true, beq_iff_eq, beq_iff_eq] at g
    exact c4 g
  refine evSome (rightEq h) (evPos (decide_eq_true c1) (evSome (pointIn ..) (evPos c2 (evSome (pointIn ..) (evPos c3 ?_)))))
  rw [e]
  exact hj
theorem barLong {ax ay bx bY h : Int} (ho : okB ax ay bx bY h) (hl : ¬ shortB ax ay bx bY) : Ev (fun k => stroke_Bar.f k ax ay bx bY h) ([], 10) := by
  refine barGo ho (Ev.step (fun _ => stroke_Bar.j0.eq_2 ..) (evNeg (by simp) (Ev.bind (stepsLong (inE ho.2.1) (inE ho.2.2.1) hl) (evNeg (by decide) (Ev.now _)))))
theorem barEv {ax ay bx bY h s t u v : Int} (ho : okB ax ay bx bY h) (hs : Ev (fun k => stroke_steps.f k ax ay bx bY h) (s, t, u, v, 0)) (s1 : -35184372088833 ≤ s ∧ s ≤ 35184372088833) (t1 : -35184372088833 ≤ t ∧ t ≤ 35184372088833) :
    Ev (fun k => stroke_Bar.f k ax ay bx bY h) (if (barL ax ay bx bY s t).all pIn = true then (barL ax ay bx bY s t, 0) else ([], 10)) := by
  obtain ⟨⟨x1, x2⟩, y1, y2⟩ := inE ho.2.1
  obtain ⟨⟨z1, z2⟩, w1, w2⟩ := inE ho.2.2.1
  refine barGo ho (Ev.step (fun _ => stroke_Bar.j0.eq_2 ..) (evNeg (by simp) (Ev.bind hs (evPos rfl ?_))))
  have l1 : stroke_less.f ax ay s t = some (ax - s, ay - t) := by unfold stroke_less.f; rw [w64' (by omega) (by omega), w64' (by omega) (by omega)]
  have l2 : stroke_less.f bx bY s t = some (bx - s, bY - t) := by unfold stroke_less.f; rw [w64' (by omega) (by omega), w64' (by omega) (by omega)]
  have l3 : stroke_plus.f bx bY s t = some (bx + s, bY + t) := by unfold stroke_plus.f; rw [w64' (by omega) (by omega), w64' (by omega) (by omega)]
  have l4 : stroke_plus.f ax ay s t = some (ax + s, ay + t) := by unfold stroke_plus.f; rw [w64' (by omega) (by omega), w64' (by omega) (by omega)]
  refine evSome l1 (evSome l2 (evSome l3 (evSome l4 ?_)))
  exact Ev.bind (roomEv (barL ax ay bx bY s t) (by simp [barL])) (Ev.now _)
abbrev Rt := S31
def rIn (p : Rt) : Bool := inB p.f0 p.f1
def conv (p : Pt) : Rt := ⟨p.f0, p.f1⟩
theorem refInLoop (l : List Rt) (hl : (l.length : Int) ≤ 4611686018427387904) : ∀ (n : Nat) (i : Int), i + n = l.length → 0 ≤ i → Ev (fun k => limnerref07_In.l0 k l i) ((l.drop i.toNat).all rIn) := by
  intro n
  induction n with
  | zero =>
    intro i h1 h0
    have : l.drop i.toNat = [] := List.drop_eq_nil_of_le (by omega)
    rw [this]
    exact Ev.step (fun _ => limnerref07_In.l0.eq_2 ..) (evNeg (by omega) (Ev.now _))
  | succ n ih =>
    intro i h1 h0
    have hlt : i.toNat < l.length := by omega
    have e : l.drop i.toNat = l[i.toNat] :: l.drop (i + 1).toNat := by
      rw [show (i + 1).toNat = i.toNat + 1 by omega]
      exact List.drop_eq_getElem_cons hlt
    have er : rd_T31 l i = l[i.toNat] := by
      unfold rd_T31
      rw [List.getD_eq_getElem?_getD, List.getElem?_eq_getElem hlt]
      rfl
    rw [e, List.all_cons]
    refine Ev.step (fun _ => limnerref07_In.l0.eq_2 ..) (evPos (by omega) (evPos h0 (evSome (refIn _) ?_)))
    rw [er]
    by_cases c1 : R31 l[i.toNat].f0
    · refine evPos (decide_eq_true c1) (evSome (refIn _) ?_)
      by_cases c2 : R31 l[i.toNat].f1
      · have hr : rIn l[i.toNat] = true := decide_eq_true ⟨c1, c2⟩
        rw [hr, Bool.true_and, w64' (by omega) (by omega)]
        exact evPos (decide_eq_true c2) (ih (i + 1) (by omega) (by omega))
      · have hr : rIn l[i.toNat] = false := decide_eq_false fun g => c2 g.2
        rw [hr, Bool.false_and]
        exact evNeg (by simpa using c2) (Ev.now _)
    · have hr : rIn l[i.toNat] = false := decide_eq_false fun g => c1 g.1
      rw [hr, Bool.false_and]
      exact evNeg (by simpa using c1) (Ev.now _)
theorem sameLoop (l : List Pt) (hl : (l.length : Int) ≤ 4611686018427387904) : ∀ (n : Nat) (i : Int), i + n = l.length → 0 ≤ i → Ev (fun k => limnerlaw07_same.l0 k l (l.map conv) (l.length : Int) i) true := by
  intro n
  induction n with
  | zero =>
    intro i h1 h0
    exact Ev.step (fun _ => limnerlaw07_same.l0.eq_2 ..) (evNeg (by omega) (Ev.now _))
  | succ n ih =>
    intro i h1 h0
    have hlt : i.toNat < l.length := by omega
    have er : rd_T23 l i = l[i.toNat] := by
      unfold rd_T23
      rw [List.getD_eq_getElem?_getD, List.getElem?_eq_getElem hlt]
      rfl
    have er2 : rd_T31 (l.map conv) i = conv l[i.toNat] := by
      unfold rd_T31
      rw [List.getD_eq_getElem?_getD, List.getElem?_map, List.getElem?_eq_getElem hlt]
      rfl
    refine Ev.step (fun _ => limnerlaw07_same.l0.eq_2 ..) (evPos (by omega) (evPos h0 (evPos (by omega) (evPos (by rw [List.length_map]; omega) ?_))))
    rw [er, er2, w64' (by omega) (by omega)]
    exact evPos rfl (evPos rfl (ih (i + 1) (by omega) (by omega)))
theorem mixEq {x y s t u v m : Int} (hx : R31 x) (hy : R31 y) (s1 : -35184372088833 ≤ s ∧ s ≤ 35184372088833) (t1 : -35184372088833 ≤ t ∧ t ≤ 35184372088833) (hm : m = 1 ∨ m = -1) :
    limnerref07_mix.f x y m s t 0 u v = some (x + m * s, y + m * t) := by
  obtain ⟨x1, x2⟩ := hx
  obtain ⟨y1, y2⟩ := hy
  unfold limnerref07_mix.f
  rw [Int.zero_mul, Int.zero_mul, w64' (n := 0) (by decide) (by decide)]
  rcases hm with rfl | rfl
  · rw [Int.one_mul, Int.one_mul, w64' (n := s) (by omega) (by omega), w64' (n := t) (by omega) (by omega), w64' (n := x + s) (by omega) (by omega), w64' (n := y + t) (by omega) (by omega), Int.add_zero, Int.add_zero, w64' (by omega) (by omega), w64' (by omega) (by omega)]
  · rw [w64' (n := -1 * s) (by omega) (by omega), w64' (n := -1 * t) (by omega) (by omega), w64' (n := x + -1 * s) (by omega) (by omega), w64' (n := y + -1 * t) (by omega) (by omega), Int.add_zero, Int.add_zero, w64' (by omega) (by omega), w64' (by omega) (by omega)]
theorem refBarEv {ax ay bx bY h s t u v : Int} (ho : okB ax ay bx bY h) (hs : Ev (fun k => limnerref07_Steps.f k ax ay bx bY h) (s, t, u, v)) (s1 : -35184372088833 ≤ s ∧ s ≤ 35184372088833) (t1 : -35184372088833 ≤ t ∧ t ≤ 35184372088833) :
    Ev (fun k => limnerref07_Bar.f k ax ay bx bY h) ((barL ax ay bx bY s t).map conv) := by
  obtain ⟨ha1, ha2⟩ := inE ho.2.1
  obtain ⟨hb1, hb2⟩ := inE ho.2.2.1
  unfold limnerref07_Bar.f
  refine Ev.bind hs (evSome (mixEq ha1 ha2 s1 t1 (.inr rfl)) (evSome (mixEq hb1 hb2 s1 t1 (.inr rfl)) (evSome (mixEq hb1 hb2 s1 t1 (.inl rfl)) (evSome (mixEq ha1 ha2 s1 t1 (.inl rfl)) (evEq (Ev.now _) ?_)))))
  have e : ∀ z w : Int, z + -1 * w = z - w := by intro z w; omega
  simp only [barL, conv, List.map_cons, List.map_nil, e, Int.one_mul]
end Go.Proofs.Ytidpeongblkcbaa.PBar
