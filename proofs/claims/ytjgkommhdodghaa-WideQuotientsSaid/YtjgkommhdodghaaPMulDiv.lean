/- What wide.MulDiv, sums, roots and awake of the law's chapter come to. Conditions: those that each theorem names. -/
import Derived.Test.YtjgkommhdodghaaXx2
import Derived.Test.YtjgkommhdodghaaXx4
import Derived.Test.YtjgkommhdodghaaXx6
import Derived.Test.YtjgkommhdodghaaPNum
import Derived.Test.YtjgkommhdodghaaPMul
import Derived.Test.YtjgkommhdodghaaPShift
import Derived.Test.YtjgkommhdodghaaPDiv
namespace Go.Proofs.Ytjgkommhdodghaa.PMulDiv
open Go.RowKit Go.Proofs.YtjgkommhdodghaaW.PrintWords Go.Proofs.Ytjgkommhdodghaa.X Go.Proofs.Ytjgkommhdodghaa.PNum Go.Proofs.Ytjgkommhdodghaa.PMul Go.Proofs.Ytjgkommhdodghaa.PShift Go.Proofs.Ytjgkommhdodghaa.PDiv

def I64 (a : Int) : Prop := -9223372036854775808 ≤ a ∧ a ≤ 9223372036854775807
instance (a : Int) : Decidable (I64 a) := inferInstanceAs (Decidable (_ ∧ _))
theorem wideAdd {p q : Int} (h1 : -170141183460469231731687303715884105728 ≤ p + q) (h2 : p + q ≤ 170141183460469231731687303715884105727) :
    wide_Num_Add.f (p / 18446744073709551616) (p % 18446744073709551616) (q / 18446744073709551616) (q % 18446744073709551616) = some ((p + q) / 18446744073709551616, (p + q) % 18446744073709551616) := by
  unfold wide_Num_Add.f
  rw [if_pos (by omega), if_pos (by omega), if_pos (by omega), if_pos (by omega)]
  congr 1
  simp only [wu64]
  have e : (p % 18446744073709551616 + q % 18446744073709551616 + 0) % 18446744073709551616 = (p + q) % 18446744073709551616 := by omega
  rw [e]
  congr 1
  unfold wrap64
  omega
theorem wideNeg {p : Int} (h1 : -170141183460469231731687303715884105727 ≤ p) (h2 : p ≤ 170141183460469231731687303715884105727) :
    wide_Num_Neg.f (p / 18446744073709551616) (p % 18446744073709551616) = some ((-p) / 18446744073709551616, (-p) % 18446744073709551616) := by
  unfold wide_Num_Neg.f
  have := wideSub (p := 0) (q := p) (by omega) (by omega)
  rw [Int.zero_sub] at this
  rw [show (0 : Int) / 18446744073709551616 = 0 from rfl, show (0 : Int) % 18446744073709551616 = 0 from rfl] at this
  rw [this]
  rfl
/-- The size of an int. -/
def ab (a : Int) : Int := if a < 0 then -a else a
theorem sizeEq {a : Int} (h : I64 a) : wide_size.f a = some (ab a) := by
  unfold I64 at h
  unfold wide_size.f ab
  by_cases c : a < 0
  · rw [if_pos c, if_pos c]
    congr 1
    simp only [wu64]
    omega
  · rw [if_neg c, if_neg c]
    congr 1
    simp only [wu64]
    omega
theorem ab_bd {a : Int} (h : I64 a) : 0 ≤ ab a ∧ ab a ≤ 9223372036854775808 := by
  unfold I64 at h
  unfold ab
  split <;> omega
theorem ab_mul (a b : Int) : ab a * ab b = ab (a * b) := by
  unfold ab
  by_cases ca : a < 0 <;> by_cases cb : b < 0
  · have := Int.mul_pos_of_neg_of_neg ca cb
    rw [if_pos ca, if_pos cb, if_neg (by omega), Int.neg_mul_neg]
  · rw [if_pos ca, if_neg cb]
    by_cases hb : b = 0
    · subst hb; simp
    · have := Int.mul_neg_of_neg_of_pos ca (show 0 < b by omega)
      rw [if_pos this, Int.neg_mul]
  · rw [if_neg ca, if_pos cb]
    by_cases ha : a = 0
    · subst ha; simp
    · have := Int.mul_neg_of_pos_of_neg (show 0 < a by omega) cb
      rw [if_pos this, Int.mul_neg]
  · have := Int.mul_nonneg (show 0 ≤ a by omega) (show 0 ≤ b by omega)
    rw [if_neg ca, if_neg cb, if_neg (by omega)]
/-- The quotient, rounded down. -/
def fl (p c : Int) : Int := if c < 0 then (-p) / (-c) else p / c
def ex (p c : Int) : Bool := decide (p % c = 0)
def mdV (a b c : Int) : Int × Bool × Int := if c = 0 then (0, false, 11) else if I64 (fl (a * b) c) then (fl (a * b) c, ex (a * b) c, 0) else (0, false, 10)
/-- A quotient that is rounded down: told by its bounds. -/
theorem fl_iff {p c q : Int} (hc : c ≠ 0) : fl p c = q ↔ (0 < c ∧ q * c ≤ p ∧ p < q * c + c) ∨ (c < 0 ∧ p ≤ q * c ∧ q * c + c < p) := by
  unfold fl
  by_cases h : c < 0
  · rw [if_pos h, Int.ediv_eq_iff_of_pos (by omega), Int.mul_neg]
    omega
  · rw [if_neg h, Int.ediv_eq_iff_of_pos (by omega)]
    omega
/-- By sizes: signs that differ. -/
theorem fl_neg {p c q r : Int} (hP : ab p = q * ab c + r) (h0 : 0 ≤ r) (h1 : r < ab c) (hs : (p ≤ 0 ∧ 0 < c) ∨ (0 ≤ p ∧ c < 0)) : fl p c = -(if r > 0 then q + 1 else q) := by
  have hab : ∀ z : Int, (0 ≤ z → ab z = z) ∧ (z ≤ 0 → ab z = -z) := by intro z; unfold ab; constructor <;> intro h <;> split <;> omega
  rw [fl_iff (by omega)]
  rcases hs with ⟨a1, a2⟩ | ⟨a1, a2⟩
  · rw [(hab p).2 a1, (hab c).1 (by omega)] at hP
    rw [(hab c).1 (by omega)] at h1
    refine .inl ⟨a2, ?_⟩
    split
    · rw [Int.neg_mul, Int.add_mul, Int.one_mul]; omega
    · rw [Int.neg_mul]; omega
  · rw [(hab p).1 a1, (hab c).2 (by omega), Int.mul_neg] at hP
    rw [(hab c).2 (by omega)] at h1
    refine .inr ⟨a2, ?_⟩
    split
    · rw [Int.neg_mul, Int.add_mul, Int.one_mul]; omega
    · rw [Int.neg_mul]; omega
/-- By sizes: signs that agree. -/
theorem fl_pos {p c q r : Int} (hP : ab p = q * ab c + r) (h0 : 0 ≤ r) (h1 : r < ab c) (hs : (0 ≤ p ∧ 0 < c) ∨ (p ≤ 0 ∧ c < 0)) : fl p c = q := by
  have hab : ∀ z : Int, (0 ≤ z → ab z = z) ∧ (z ≤ 0 → ab z = -z) := by intro z; unfold ab; constructor <;> intro h <;> split <;> omega
  rw [fl_iff (by omega)]
  rcases hs with ⟨a1, a2⟩ | ⟨a1, a2⟩
  · rw [(hab p).1 a1, (hab c).1 (by omega)] at hP
    rw [(hab c).1 (by omega)] at h1
    exact .inl ⟨a2, by omega, by omega⟩
  · rw [(hab p).2 a1, (hab c).2 (by omega), Int.mul_neg] at hP
    rw [(hab c).2 (by omega)] at h1
    exact .inr ⟨a2, by omega, by omega⟩
theorem ex_ab (p c : Int) : (ab p % ab c == 0) = ex p c := by
  unfold ex
  rw [Bool.eq_iff_iff, beq_iff_eq, decide_eq_true_eq]
  have h1 : ∀ z : Int, ab z = z ∨ ab z = -z := by intro z; unfold ab; split <;> omega
  have h2 : ∀ z y : Int, z % y = 0 ↔ y ∣ z := fun z y => (Int.dvd_iff_emod_eq_zero).symm
  rw [h2, h2]
  rcases h1 p with h | h <;> rcases h1 c with h' | h' <;> rw [h, h'] <;> simp [Int.neg_dvd, Int.dvd_neg]
theorem intOr {p : Int} (h1 : -170141183460469231731687303715884105728 ≤ p) (h2 : p ≤ 170141183460469231731687303715884105727) :
    wide_Num_Int.f (p / 18446744073709551616) (p % 18446744073709551616) = some (if I64 p then (p, true) else (0, false)) := wideInt h1 h2
theorem mulDivEv {a b c : Int} (ha : I64 a) (hb : I64 b) (hc : I64 c) : Ev (fun k => wide_MulDiv.f k a b c) (mdV a b c) := by
  unfold wide_MulDiv.f
  by_cases c0 : c = 0
  · exact evPos c0 (evEq (Ev.now _) (by unfold mdV; rw [if_pos c0]))
  refine evNeg c0 (evSome (sizeEq ha) (evSome (sizeEq hb) ?_))
  obtain ⟨a0, a1⟩ := ab_bd ha
  obtain ⟨b0, b1⟩ := ab_bd hb
  obtain ⟨d0, d1⟩ := ab_bd hc
  have dpos : 0 < ab c := by unfold ab; split <;> omega
  have hm : ab a * ab b = ab (a * b) := ab_mul a b
  have hP1 : ab a * ab b ≤ 9223372036854775808 * 9223372036854775808 := Int.mul_le_mul a1 b1 b0 (by decide)
  have hP0 : 0 ≤ ab a * ab b := Int.mul_nonneg a0 b0
  refine evSome (mul64 _ _ a0 (by omega) b0 (by omega)) (evSome (sizeEq hc) ?_)
  rw [hm] at hP0 hP1 ⊢
  obtain ⟨P, eP⟩ : ∃ P : Int, P = ab (a * b) := ⟨_, rfl⟩
  rw [← eP] at hP0 hP1 ⊢
  obtain ⟨C, eC⟩ : ∃ C : Int, C = ab c := ⟨_, rfl⟩
  rw [← eC] at dpos d0 d1 ⊢
  have hD := Int.mul_ediv_add_emod P C
  have hM0 := Int.emod_nonneg P (show C ≠ 0 by omega)
  have hM1 := Int.emod_lt_of_pos P dpos
  have hQ0 : 0 ≤ P / C := Int.ediv_nonneg hP0 (by omega)
  obtain ⟨q, eq⟩ : ∃ q : Int, q = P / C := ⟨_, rfl⟩
  obtain ⟨r, er⟩ : ∃ r : Int, r = P % C := ⟨_, rfl⟩
  rw [← er] at hM0 hM1
  have hD2 : P = q * C + r := by rw [eq, er, Int.mul_comm]; exact hD.symm
  rw [← eq] at hQ0
  have hPq : ab (a * b) = q * ab c + r := by rw [← eP, ← eC]; exact hD2
  have hM1' : r < ab c := by rw [← eC]; exact hM1
  -- the signs
  have hs : ∀ s : Bool, (decide (a < 0) != decide (b < 0)) = s → (s = true → a * b ≤ 0) ∧ (s = false → 0 ≤ a * b) := by
    intro s h
    by_cases ca : a < 0 <;> by_cases cb : b < 0
    · have := Int.mul_pos_of_neg_of_neg ca cb
      rw [decide_eq_true ca, decide_eq_true cb] at h
      subst h
      exact ⟨by simp, fun _ => by omega⟩
    · have := Int.mul_nonpos_of_nonpos_of_nonneg (show a ≤ 0 by omega) (show 0 ≤ b by omega)
      rw [decide_eq_true ca, decide_eq_false cb] at h
      subst h
      exact ⟨fun _ => this, by simp⟩
    · have := Int.mul_nonpos_of_nonneg_of_nonpos (show 0 ≤ a by omega) (show b ≤ 0 by omega)
      rw [decide_eq_false ca, decide_eq_true cb] at h
      subst h
      exact ⟨fun _ => this, by simp⟩
    · have := Int.mul_nonneg (show 0 ≤ a by omega) (show 0 ≤ b by omega)
      rw [decide_eq_false ca, decide_eq_false cb] at h
      subst h
      exact ⟨by simp, fun _ => this⟩
  have ht : ((decide (a < 0) != decide (b < 0)) != decide (c < 0)) = true → (a * b ≤ 0 ∧ 0 < c) ∨ (0 ≤ a * b ∧ c < 0) := by
    intro h
    generalize hq : (decide (a < 0) != decide (b < 0)) = s at h
    obtain ⟨h1, h2⟩ := hs s hq
    by_cases cc : c < 0
    · rw [decide_eq_true cc] at h
      exact .inr ⟨h2 (by simpa using h), cc⟩
    · rw [decide_eq_false cc] at h
      exact .inl ⟨h1 (by simpa using h), by omega⟩
  have hf : ¬ ((decide (a < 0) != decide (b < 0)) != decide (c < 0)) = true → (0 ≤ a * b ∧ 0 < c) ∨ (a * b ≤ 0 ∧ c < 0) := by
    intro h
    generalize hq : (decide (a < 0) != decide (b < 0)) = s at h
    obtain ⟨h1, h2⟩ := hs s hq
    by_cases cc : c < 0
    · rw [decide_eq_true cc] at h
      exact .inr ⟨h1 (by simpa using h), cc⟩
    · rw [decide_eq_false cc] at h
      exact .inl ⟨h2 (by simpa using h), by omega⟩
  have hex : (r == 0) = ex (a * b) c := by rw [er, eP, eC]; exact ex_ab _ _
  have yes : ∀ v : Int, fl (a * b) c = v → I64 v → mdV a b c = (v, r == 0, 0) := by
    intro v h h'
    unfold mdV
    rw [if_neg c0, h, if_pos h', hex]
  have no : ∀ v : Int, fl (a * b) c = v → ¬ I64 v → mdV a b c = (0, false, 10) := by
    intro v h h'
    unfold mdV
    rw [if_neg c0, h, if_neg h']
  by_cases big : P / 18446744073709551616 ≥ C
  · refine evPos big (evEq (Ev.now _) ?_)
    have hq : 18446744073709551616 ≤ q := by rw [eq]; exact Int.le_ediv_of_mul_le dpos (by omega)
    by_cases hsn : ((decide (a < 0) != decide (b < 0)) != decide (c < 0)) = true
    · exact (no _ (fl_neg hPq hM0 hM1' (ht hsn)) (by unfold I64; split <;> omega)).symm
    · exact (no _ (fl_pos hPq hM0 hM1' (hf hsn)) (by unfold I64; omega)).symm
  refine evNeg big (evSome (sizeEq hc) ?_)
  rw [← eC]
  have hdv := div64Ev (h := P / 18446744073709551616) (l := P % 18446744073709551616) (y := C) (by omega) (by omega) (by omega) (by omega) (by omega)
  rw [show P / 18446744073709551616 * 18446744073709551616 + P % 18446744073709551616 = P by omega, ← eq, ← er] at hdv
  refine Ev.bind hdv ?_
  have hq1 : q < 18446744073709551616 := by
    rw [eq]
    exact Int.ediv_lt_of_lt_mul dpos (by omega)
  have z0 : ∀ z : Int, 0 ≤ z → z < 18446744073709551616 → z / 18446744073709551616 = 0 ∧ z % 18446744073709551616 = z := by intro z h1 h2; omega
  have jn : ∀ z : Int, 0 ≤ z → z ≤ 18446744073709551616 → fl (a * b) c = -z → Ev (fun k => wide_MulDiv.j0 k r (z / 18446744073709551616) (z % 18446744073709551616)) (mdV a b c) := by
    intro z h1 h2 h3
    refine Ev.step (fun _ => wide_MulDiv.j0.eq_2 ..) (evSome (wideNeg (by omega) (by omega)) (evSome (intOr (by omega) (by omega)) ?_))
    by_cases h4 : I64 (-z)
    · rw [if_pos h4]
      exact evPos rfl (evEq (Ev.now _) (yes _ h3 h4).symm)
    · rw [if_neg h4]
      exact evNeg (by simp) (evEq (Ev.now _) (no _ h3 h4).symm)
  by_cases hsn : ((decide (a < 0) != decide (b < 0)) != decide (c < 0)) = true
  · refine evPos hsn ?_
    have h3 := fl_neg hPq hM0 hM1' (ht hsn)
    by_cases hr : r > 0
    · rw [if_pos hr] at h3
      refine evPos hr (evSome (ofEq 1 (by decide) (by decide)) ?_)
      have h4 := wideAdd (p := q) (q := 1) (by omega) (by omega)
      rw [(z0 q hQ0 hq1).1, (z0 q hQ0 hq1).2] at h4
      exact evSome h4 (jn (q + 1) (by omega) (by omega) h3)
    · rw [if_neg hr] at h3
      have h5 := jn q hQ0 (by omega) h3
      rw [(z0 q hQ0 hq1).1, (z0 q hQ0 hq1).2] at h5
      exact evNeg hr h5
  · have h3 := fl_pos hPq hM0 hM1' (hf hsn)
    have h4 := intOr (p := q) (by omega) (by omega)
    rw [(z0 q hQ0 hq1).1, (z0 q hQ0 hq1).2] at h4
    refine evNeg hsn (evSome h4 ?_)
    by_cases h5 : I64 q
    · rw [if_pos h5]
      exact evPos rfl (evEq (Ev.now _) (yes _ h3 h5).symm)
    · rw [if_neg h5]
      exact evNeg (by simp) (evEq (Ev.now _) (no _ h3 h5).symm)
end Go.Proofs.Ytjgkommhdodghaa.PMulDiv
