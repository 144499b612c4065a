/- What the printed functions of package affine and of its reference come to. Conditions: the ranges that each theorem names. -/
import Derived.Test.YtkneefkhggacmaaXx5
import Derived.Test.YtkneefkhggacmaaXx6
import Derived.Test.YtkneefkhggacmaaXx7
import Derived.Test.YtkneefkhggacmaaXx8
import Derived.Test.YtkneefkhggacmaaPNum
namespace Go.Proofs.Ytkneefkhggacmaa.PAff
open Go.RowKit Go.Proofs.YtkneefkhggacmaaW.PrintWords Go.Proofs.Ytkneefkhggacmaa.X Go.Proofs.Ytkneefkhggacmaa.PNum

theorem mulb {a x b c : Int} (h1 : -b ≤ a) (h2 : a ≤ b) (h3 : -c ≤ x) (h4 : x ≤ c) : -(b * c) ≤ a * x ∧ a * x ≤ b * c := by
  have key : ∀ p q : Int, 0 ≤ p → p ≤ b → 0 ≤ q → q ≤ c → 0 ≤ p * q ∧ p * q ≤ b * c := by
    intro p q h1 h2 h3 h4
    exact ⟨Int.mul_nonneg h1 h3, Int.mul_le_mul h2 h4 h3 (by omega)⟩
  rcases Int.le_total 0 a with h | h <;> rcases Int.le_total 0 x with h' | h'
  · have := key a x h h2 h' h4; omega
  · have := key a (-x) h h2 (by omega) (by omega); rw [Int.mul_neg] at this; omega
  · have := key (-a) x (by omega) (by omega) h' h4; rw [Int.neg_mul] at this; omega
  · have := key (-a) (-x) (by omega) (by omega) (by omega) (by omega); rw [Int.neg_mul_neg] at this; omega

/-- Divided by 65536, rounded. -/
def rn (n : Int) : Int := (n + 32768) / 65536
theorem rn_bd (n : Int) : rn n * 65536 ≤ n + 32768 ∧ n - 32768 < rn n * 65536 := by unfold rn; omega

def R31 (a : Int) : Prop := -2147483648 ≤ a ∧ a ≤ 2147483648
def E24 (a : Int) : Prop := -16777216 ≤ a ∧ a ≤ 16777216
instance (a : Int) : Decidable (R31 a) := by unfold R31; infer_instance
instance (a : Int) : Decidable (E24 a) := by unfold E24; infer_instance
def rightB (a b c d e f : Int) : Bool := decide (E24 a ∧ E24 b ∧ E24 c ∧ E24 d ∧ R31 e ∧ R31 f)
def inB (x y : Int) : Bool := decide (R31 x ∧ R31 y)

theorem fixedIn (a : Int) : fixed_In.f a = some (decide (R31 a)) := by
  unfold fixed_In.f
  split
  · rename_i h
    exact congrArg some (decide_eq_decide.2 (by unfold R31; omega))
  · rename_i h
    exact congrArg some (decide_eq_false (by unfold R31; omega)).symm
theorem refIn (a : Int) : limnerref01_In.f a = some (decide (R31 a)) := by
  unfold limnerref01_In.f
  split
  · rename_i h
    exact congrArg some (decide_eq_decide.2 (by unfold R31; omega))
  · rename_i h
    exact congrArg some (decide_eq_false (by unfold R31; omega)).symm
theorem andB {P Q : Prop} [Decidable P] [Decidable Q] : (if decide P = true then some (decide Q) else some false) = some (decide (P ∧ Q)) := by
  by_cases h : P
  · simp [h]
  · simp [h]
theorem rightCore (a b c d : Int) {P : Prop} [Decidable P] {z : Option Bool} (hz : z = some (decide P)) :
    (if a < (-16777216) then (some false) else (if a > 16777216 then (some false) else (if b < (-16777216) then (some false) else (if b > 16777216 then (some false) else (if c < (-16777216) then (some false) else (if c > 16777216 then (some false) else (if d < (-16777216) then (some false) else (if d > 16777216 then (some false) else z)))))))) = some (decide (E24 a ∧ E24 b ∧ E24 c ∧ E24 d ∧ P)) := by
  subst hz
  have no : ∀ {q : Prop} [Decidable q], ¬ q → some false = some (decide q) := by intro q _ h; rw [decide_eq_false h]
  split
  · exact no (by unfold E24; omega)
  split
  · exact no (by unfold E24; omega)
  split
  · exact no (by unfold E24; omega)
  split
  · exact no (by unfold E24; omega)
  split
  · exact no (by unfold E24; omega)
  split
  · exact no (by unfold E24; omega)
  split
  · exact no (by unfold E24; omega)
  split
  · exact no (by unfold E24; omega)
  · congr 1
    rw [decide_eq_decide]
    unfold E24
    constructor
    · intro h; exact ⟨by omega, by omega, by omega, by omega, h⟩
    · intro h; exact h.2.2.2.2
theorem rightEq (a b c d e f : Int) : affine_Matrix_Right.f a b c d e f = some (rightB a b c d e f) := by
  unfold affine_Matrix_Right.f rightB
  exact rightCore a b c d (by rw [fixedIn, fixedIn]; exact andB)
theorem refRightEq (a b c d e f : Int) : limnerref04_Right.f a b c d e f = some (rightB a b c d e f) := by
  unfold limnerref04_Right.f rightB
  exact rightCore a b c d (by rw [refIn, refIn]; exact andB)
theorem pointIn (x y : Int) : geom_Point_In.f x y = some (inB x y) := by
  unfold geom_Point_In.f inB
  rw [fixedIn, fixedIn]
  exact andB
theorem lawIn (x y : Int) : limnerlaw04_in.f x y = some (inB x y) := by
  unfold limnerlaw04_in.f inB
  rw [refIn, refIn]
  exact andB
theorem mixEq {a x c y : Int} (ha : E24 a) (hx : R31 x) (hc : E24 c) (hy : R31 y) : affine_mix.f a x c y = some (rn (a * x + c * y)) := by
  have p1 := mulb (b := 16777216) (c := 2147483648) ha.1 ha.2 hx.1 hx.2
  have p2 := mulb (b := 16777216) (c := 2147483648) hc.1 hc.2 hy.1 hy.2
  unfold affine_mix.f rn
  generalize a * x = p at *
  generalize c * y = q at *
  rw [w64' (n := p) (by omega) (by omega), w64' (n := q) (by omega) (by omega), w64' (n := p + q) (by omega) (by omega), w64' (by omega) (by omega)]
theorem e24_r31 {a : Int} (h : E24 a) : R31 a := by unfold E24 at h; unfold R31; omega
theorem belowEq {n : Int} (h : -1000000000000000000 ≤ n ∧ n ≤ 1000000000000000000) : limnerref01_Below.f n 65536 = some (n / 65536) := by
  unfold limnerref01_Below.f
  rw [if_neg (by omega)]
  rcases Int.le_total 0 n with h0 | h0
  · rw [Int.tdiv_eq_ediv_of_nonneg h0, w64' (n := n / 65536) (by omega) (by omega), w64' (n := n / 65536 * 65536) (by omega) (by omega), if_neg (by omega)]
  · have e : Int.tdiv n 65536 = -((-n) / 65536) := by
      have : Int.tdiv n 65536 = -(Int.tdiv (-n) 65536) := by rw [Int.neg_tdiv, Int.neg_neg]
      rw [this, Int.tdiv_eq_ediv_of_nonneg (by omega)]
    rw [e, w64' (n := -((-n) / 65536)) (by omega) (by omega), w64' (n := -((-n) / 65536) * 65536) (by omega) (by omega)]
    by_cases c : -((-n) / 65536) * 65536 > n
    · rw [if_pos c, w64' (by omega) (by omega)]
      congr 1
      omega
    · rw [if_neg c]
      congr 1
      omega
theorem roundEq {n : Int} (h : -1000000000000000000 ≤ n ∧ n ≤ 1000000000000000000) : limnerref01_Round.f n 65536 = some (rn n) := by
  unfold limnerref01_Round.f rn
  rw [belowEq h]
  simp only [Option.bind_some]
  rw [w64' (n := n / 65536 * 65536) (by omega) (by omega), w64' (n := n - n / 65536 * 65536) (by omega) (by omega), w64' (n := 65536 - (n - n / 65536 * 65536)) (by omega) (by omega), w64' (n := n / 65536 + 1) (by omega) (by omega)]
  split <;> (congr 1; omega)
/-- What a right matrix makes of a number pair in room. -/
theorem rn_room {a x c y : Int} (ha : E24 a) (hx : R31 x) (hc : E24 c) (hy : R31 y) : -1200000000000 ≤ rn (a * x + c * y) ∧ rn (a * x + c * y) ≤ 1200000000000 := by
  have p1 := mulb (b := 16777216) (c := 2147483648) ha.1 ha.2 hx.1 hx.2
  have p2 := mulb (b := 16777216) (c := 2147483648) hc.1 hc.2 hy.1 hy.2
  unfold rn
  generalize a * x = p at *
  generalize c * y = q at *
  omega
def apV (a b c d e f x y : Int) : Int × Int × Int :=
  if rightB a b c d e f = true ∧ inB x y = true then (if inB (rn (a * x + c * y) + e) (rn (b * x + d * y) + f) = true then (rn (a * x + c * y) + e, rn (b * x + d * y) + f, 0) else (0, 0, 10)) else (0, 0, 10)
theorem rightE {a b c d e f : Int} (h : rightB a b c d e f = true) : E24 a ∧ E24 b ∧ E24 c ∧ E24 d ∧ R31 e ∧ R31 f := by unfold rightB at h; exact of_decide_eq_true h
theorem inE {x y : Int} (h : inB x y = true) : R31 x ∧ R31 y := by unfold inB at h; exact of_decide_eq_true h
theorem applyEv (a b c d e f x y : Int) : Ev (fun k => affine_Matrix_Apply.f k a b c d e f x y) (apV a b c d e f x y) := by
  unfold affine_Matrix_Apply.f
  refine evSome (rightEq ..) ?_
  by_cases h1 : rightB a b c d e f = true
  · refine evPos h1 (evSome (pointIn ..) (Ev.step (fun _ => affine_Matrix_Apply.j0.eq_2 ..) ?_))
    by_cases h2 : inB x y = true
    · refine evNeg (by simp [h2]) ?_
      obtain ⟨ha, hb, hc, hd, he, hf⟩ := rightE h1
      obtain ⟨hx, hy⟩ := inE h2
      refine evSome (mixEq ha hx hc hy) (evSome (mixEq hb hx hd hy) ?_)
      have r1 := rn_room ha hx hc hy
      have r2 := rn_room hb hx hd hy
      unfold R31 at he hf
      rw [w64' (n := rn (a * x + c * y) + e) (by omega) (by omega), w64' (n := rn (b * x + d * y) + f) (by omega) (by omega)]
      refine evSome (pointIn ..) ?_
      have hv : apV a b c d e f x y = if inB (rn (a * x + c * y) + e) (rn (b * x + d * y) + f) = true then (rn (a * x + c * y) + e, rn (b * x + d * y) + f, 0) else (0, 0, 10) := if_pos ⟨h1, h2⟩
      by_cases h3 : inB (rn (a * x + c * y) + e) (rn (b * x + d * y) + f) = true
      · rw [hv.trans (if_pos h3)]
        exact evPos h3 (Ev.now _)
      · rw [hv.trans (if_neg h3)]
        exact evNeg h3 (Ev.now _)
    · refine evPos (by simpa using h2) ?_
      unfold apV
      rw [if_neg (fun h => h2 h.2)]
      exact Ev.now _
  · refine evNeg h1 (Ev.step (fun _ => affine_Matrix_Apply.j0.eq_2 ..) (evPos rfl ?_))
    unfold apV
    rw [if_neg (fun h => h1 h.1)]
    exact Ev.now _
theorem refApplyEq {a b c d e f x y : Int} (h1 : rightB a b c d e f = true) (h2 : inB x y = true) :
    limnerref04_Apply.f a b c d e f x y = some (rn (a * x + c * y) + e, rn (b * x + d * y) + f, inB (rn (a * x + c * y) + e) (rn (b * x + d * y) + f)) := by
  obtain ⟨ha, hb, hc, hd, he, hf⟩ := rightE h1
  obtain ⟨hx, hy⟩ := inE h2
  have p1 := mulb (b := 16777216) (c := 2147483648) ha.1 ha.2 hx.1 hx.2
  have p2 := mulb (b := 16777216) (c := 2147483648) hc.1 hc.2 hy.1 hy.2
  have p3 := mulb (b := 16777216) (c := 2147483648) hb.1 hb.2 hx.1 hx.2
  have p4 := mulb (b := 16777216) (c := 2147483648) hd.1 hd.2 hy.1 hy.2
  have r1 := rn_room ha hx hc hy
  have r2 := rn_room hb hx hd hy
  unfold R31 at he hf
  unfold limnerref04_Apply.f
  rw [w64' (n := a * x) (by omega) (by omega), w64' (n := c * y) (by omega) (by omega), w64' (n := b * x) (by omega) (by omega), w64' (n := d * y) (by omega) (by omega), w64' (n := a * x + c * y) (by omega) (by omega), w64' (n := b * x + d * y) (by omega) (by omega)]
  rw [roundEq (by omega), roundEq (by omega)]
  simp only [Option.bind_some]
  rw [w64' (n := rn (a * x + c * y) + e) (by omega) (by omega), w64' (n := rn (b * x + d * y) + f) (by omega) (by omega), refIn, refIn]
  simp only [Option.bind_some]
  unfold inB
  by_cases h3 : R31 (rn (a * x + c * y) + e)
  · rw [if_pos (decide_eq_true h3)]
    simp [h3]
  · rw [if_neg (by simpa using h3)]
    simp [h3]
theorem refEq (a b c d e f : Int) : limnerlaw04_ref.f a b c d e f = some (a, b, c, d, e, f) := rfl
theorem quarterOne : affine_Quarter.f 1 = some (0, 65536, -65536, 0, 0, 0) := by decide
theorem awakeEv : Ev (fun k => limnerlaw04_awake.f k) true := by
  unfold limnerlaw04_awake.f
  refine evSome (x := affine_Scale.f 131072 65536) rfl (Ev.bind (applyEv 131072 0 0 65536 0 0 3 5) (evSome quarterOne (Ev.bind (applyEv 0 65536 (-65536) 0 0 0 3 5) ?_)))
  refine evPos (by decide) (evPos (by decide) (evPos (by decide) ?_))
  exact evEq (Ev.now _) (by decide)
end Go.Proofs.Ytkneefkhggacmaa.PAff
