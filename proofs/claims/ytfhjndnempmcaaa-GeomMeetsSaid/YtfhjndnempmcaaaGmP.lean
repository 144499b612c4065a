/- Plain geometry: two stretches meet just if no line parts them. Conditions: those that each theorem names. -/
import Derived.Test.YtfhjndnempmcaaaGmB
import Derived.Test.YtfhjndnempmcaaaSyQ
namespace Go.Proofs.Ytfhjndnempmcaaa.Sy
open Go Go.Proofs
set_option linter.unusedSimpArgs false
set_option linter.unusedVariables false

def sameS (x y : Int) : Prop := (0 < x ∧ 0 < y) ∨ (x < 0 ∧ y < 0)
def diffS (x y : Int) : Prop := (0 < x ∧ y < 0) ∨ (x < 0 ∧ 0 < y)
theorem sgn_same (x y : Int) : 0 < sgn x * sgn y ↔ sameS x y := by unfold sgn sameS; (repeat' split) <;> omega
theorem sgn_diffS (x y : Int) : sgn x * sgn y < 0 ↔ diffS x y := by unfold sgn diffS; (repeat' split) <;> omega
theorem sgn_null (x : Int) : sgn x = 0 ↔ x = 0 := sgn_eq_zero
def Bt (a b p : Int) : Prop := (a ≤ p ∨ b ≤ p) ∧ (p ≤ a ∨ p ≤ b)
theorem btw_iff (ax ay bx b_y px py : Int) : btw ax ay bx b_y px py = true ↔ Bt ax bx px ∧ Bt ay b_y py := by
  simp only [btw, Bool.and_eq_true, decide_eq_true_eq]
  unfold mnI mxI Bt
  (repeat' split) <;> omega

/-- Four places: the areas stand so. -/
theorem four (ax ay bx b_y cx cy dx dy : Int) : cross ax ay bx b_y cx cy + cross cx cy dx dy ax ay = cross ax ay bx b_y dx dy + cross cx cy dx dy bx b_y := by
  unfold cross; grind
theorem fourx (ax ay bx b_y cx cy dx dy : Int) : cx * cross ax ay bx b_y dx dy - dx * cross ax ay bx b_y cx cy + ax * cross cx cy dx dy bx b_y - bx * cross cx cy dx dy ax ay = 0 := by
  unfold cross; grind
theorem foury (ax ay bx b_y cx cy dx dy : Int) : cy * cross ax ay bx b_y dx dy - dy * cross ax ay bx b_y cx cy + ay * cross cx cy dx dy bx b_y - b_y * cross cx cy dx dy ax ay = 0 := by
  unfold cross; grind
theorem onx (ax ay bx b_y cx cy dx dy : Int) (h : cross ax ay bx b_y cx cy = 0) : (ax - cx) * cross cx cy dx dy bx b_y = (bx - cx) * cross cx cy dx dy ax ay := by
  unfold cross at *; grind
theorem ony (ax ay bx b_y cx cy dx dy : Int) (h : cross ax ay bx b_y cx cy = 0) : (ay - cy) * cross cx cy dx dy bx b_y = (b_y - cy) * cross cx cy dx dy ax ay := by
  unfold cross at *; grind
theorem cross_swap (ax ay bx b_y cx cy : Int) : cross bx b_y ax ay cx cy = -cross ax ay bx b_y cx cy := by unfold cross; grind
theorem cross_xy (ax ay bx b_y cx cy : Int) : cross ay ax b_y bx cy cx = -cross ax ay bx b_y cx cy := by unfold cross; grind

theorem pos_of {p x r y : Int} (hx : 0 < x) (hy : 0 < y) (h : p * x = r * y) : (0 < p → 0 < r) ∧ (p < 0 → r < 0) := by
  constructor
  · intro hp
    have h1 := Int.mul_pos hp hx
    rcases Int.lt_or_le 0 r with h2 | h2
    · exact h2
    · have := Int.mul_nonpos_of_nonpos_of_nonneg h2 (Int.le_of_lt hy); omega
  · intro hp
    have h1 := Int.mul_neg_of_neg_of_pos hp hx
    rcases Int.lt_or_le r 0 with h2 | h2
    · exact h2
    · have := Int.mul_nonneg h2 (Int.le_of_lt hy); omega
/-- Two that stand on one side: their factors have one sign. -/
theorem pos_of' {p x r y : Int} (hs : sameS x y) (h : p * x = r * y) : (0 < p → 0 < r) ∧ (p < 0 → r < 0) := by
  rcases hs with ⟨h1, h2⟩ | ⟨h1, h2⟩
  · exact pos_of h1 h2 h
  · refine pos_of (x := -x) (y := -y) (by omega) (by omega) ?_
    rw [Int.mul_neg, Int.mul_neg, h]
theorem same_of {p x r y : Int} (hp : sameS p r) (h : p * x = r * y) : (0 < x → 0 < y) ∧ (x < 0 → y < 0) ∧ (x = 0 → y = 0) := by
  have h' : x * p = y * r := by rw [Int.mul_comm x, Int.mul_comm y]; exact h
  obtain ⟨h1, h2⟩ := pos_of' hp h'
  refine ⟨h1, h2, fun e => ?_⟩
  subst e
  rw [Int.zero_mul] at h'
  have hr : r ≠ 0 := by rcases hp with ⟨_, h⟩ | ⟨_, h⟩ <;> omega
  exact (Int.mul_eq_zero.1 h'.symm).resolve_right hr

/-- Two sums with weights. -/
theorem wsum {w1 w2 v1 v2 c1 c2 a1 a2 : Int} (h1 : 0 < w1) (h2 : 0 < w2) (h3 : 0 < v1) (h4 : 0 < v2) (hs : w1 + w2 = v1 + v2) (he : c1 * w1 + c2 * w2 = a1 * v1 + a2 * v2)
    (k1 : a1 < c1) (k2 : a1 < c2) (k3 : a2 < c1) (k4 : a2 < c2) : False := by
  obtain ⟨m, m1, m2, m3, m4⟩ : ∃ m : Int, a1 ≤ m ∧ a2 ≤ m ∧ m < c1 ∧ m < c2 := by
    rcases Int.le_total a1 a2 with h | h
    · exact ⟨a2, h, by omega, k3, k4⟩
    · exact ⟨a1, by omega, h, k1, k2⟩
  have q1 := Int.mul_pos (show 0 < c1 - m by omega) h1
  have q2 := Int.mul_pos (show 0 < c2 - m by omega) h2
  have q3 := Int.mul_nonneg (show 0 ≤ m - a1 by omega) (Int.le_of_lt h3)
  have q4 := Int.mul_nonneg (show 0 ≤ m - a2 by omega) (Int.le_of_lt h4)
  have q5 : m * (w1 + w2) = m * (v1 + v2) := by rw [hs]
  simp only [Int.sub_mul, Int.mul_add] at q1 q2 q3 q4 q5
  omega

/-- Of a point on the line through two, where the other one is not: it lies between them, if they are not on one side. -/
theorem between_of (ax ay bx b_y cx cy dx dy : Int) (h0 : cross ax ay bx b_y cx cy = 0) (h1 : cross ax ay bx b_y dx dy ≠ 0) (hn : ¬ sameS (cross cx cy dx dy ax ay) (cross cx cy dx dy bx b_y)) : Bt ax bx cx ∧ Bt ay b_y cy := by
  have f := four ax ay bx b_y cx cy dx dy
  have ex := onx ax ay bx b_y cx cy dx dy h0
  have ey := ony ax ay bx b_y cx cy dx dy h0
  rw [h0] at f
  generalize cross cx cy dx dy ax ay = s2 at *
  generalize cross cx cy dx dy bx b_y = s3 at *
  generalize cross ax ay bx b_y dx dy = s1 at *
  have key : ∀ p r : Int, p * s3 = r * s2 → ¬ sameS p r := by
    intro p r h hp
    obtain ⟨k1, k2, k3⟩ := same_of hp h
    unfold sameS at hn
    omega
  have kx := key _ _ ex
  have ky := key _ _ ey
  unfold sameS at kx ky
  unfold Bt
  omega

/-- On a line that goes on in the first direction. -/
theorem line_of {X Y t y : Int} (hX : X ≠ 0) (ht : (0 ≤ t ∧ t ≤ X) ∨ (X ≤ t ∧ t ≤ 0)) (h : X * y = Y * t) : (0 ≤ y ∧ y ≤ Y) ∨ (Y ≤ y ∧ y ≤ 0) := by
  have main : ∀ X Y t y : Int, 0 < X → 0 ≤ t → t ≤ X → 0 ≤ Y → X * y = Y * t → 0 ≤ y ∧ y ≤ Y := by
    intro X Y t y hX h0 h1 hY h
    have a1 := Int.mul_nonneg hY h0
    have a2 := Int.mul_le_mul_of_nonneg_left h1 hY
    constructor
    · rcases Int.lt_or_le y 0 with k | k
      · have := Int.mul_neg_of_pos_of_neg hX k; omega
      · exact k
    · rcases Int.lt_or_le Y y with k | k
      · have := Int.mul_lt_mul_of_pos_left k hX
        rw [Int.mul_comm X Y] at this; omega
      · exact k
  have main2 : ∀ X Y t y : Int, 0 < X → 0 ≤ t → t ≤ X → X * y = Y * t → (0 ≤ y ∧ y ≤ Y) ∨ (Y ≤ y ∧ y ≤ 0) := by
    intro X Y t y hX h0 h1 h
    rcases Int.le_total 0 Y with hY | hY
    · exact Or.inl (main X Y t y hX h0 h1 hY h)
    · have := main X (-Y) t (-y) hX h0 h1 (by omega) (by rw [Int.mul_neg, Int.neg_mul, h])
      omega
  rcases ht with ⟨h0, h1⟩ | ⟨h0, h1⟩
  · exact main2 X Y t y (by omega) h0 h1 h
  · have := main2 (-X) (-Y) (-t) (-y) (by omega) (by omega) (by omega) (by rw [Int.neg_mul_neg, Int.neg_mul_neg, h])
    omega
theorem bt_line (ax ay bx b_y cx cy : Int) (h : cross ax ay bx b_y cx cy = 0) (hx : ax ≠ bx) (hb : Bt ax bx cx) : Bt ay b_y cy := by
  have := line_of (X := bx - ax) (Y := b_y - ay) (t := cx - ax) (y := cy - ay) (by omega) (by unfold Bt at hb; omega) (by unfold cross at h; omega)
  unfold Bt
  omega
/-- On one line: where boxes meet, an end of one lies on the other. -/
theorem onLine (ax ay bx b_y cx cy dx dy : Int) (h0 : cross ax ay bx b_y cx cy = 0) (h1 : cross ax ay bx b_y dx dy = 0) (h2 : cross cx cy dx dy ax ay = 0) (hx : ax ≠ bx)
    (hb : ¬ ((ax < cx ∧ ax < dx) ∧ bx < cx ∧ bx < dx) ∧ ¬ ((cx < ax ∧ cx < bx) ∧ dx < ax ∧ dx < bx)) : (Bt ax bx cx ∧ Bt ay b_y cy) ∨ (Bt ax bx dx ∧ Bt ay b_y dy) ∨ (Bt cx dx ax ∧ Bt cy dy ay) := by
  by_cases k1 : Bt ax bx cx
  · exact Or.inl ⟨k1, bt_line _ _ _ _ _ _ h0 hx k1⟩
  · by_cases k2 : Bt ax bx dx
    · exact Or.inr (Or.inl ⟨k2, bt_line _ _ _ _ _ _ h1 hx k2⟩)
    · have k3 : Bt cx dx ax ∧ cx ≠ dx := by
        unfold Bt at *
        omega
      exact Or.inr (Or.inr ⟨k3.1, bt_line _ _ _ _ _ _ h2 k3.2 k3.1⟩)

theorem lt_mm (a b c d : Int) : mxI a b < mnI c d ↔ (a < c ∧ a < d) ∧ b < c ∧ b < d := by
  unfold mxI mnI
  (repeat' split) <;> omega
def Apart (ax ay bx b_y cx cy dx dy : Int) : Prop := ((ax < cx ∧ ax < dx) ∧ bx < cx ∧ bx < dx) ∨ ((cx < ax ∧ cx < bx) ∧ dx < ax ∧ dx < bx) ∨ ((ay < cy ∧ ay < dy) ∧ b_y < cy ∧ b_y < dy) ∨ ((cy < ay ∧ cy < b_y) ∧ dy < ay ∧ dy < b_y)
theorem meets_iff (ax ay bx b_y cx cy dx dy : Int) : meets ax ay bx b_y cx cy dx dy = true ↔
    (diffS (cross ax ay bx b_y cx cy) (cross ax ay bx b_y dx dy) ∧ diffS (cross cx cy dx dy ax ay) (cross cx cy dx dy bx b_y)) ∨ ((Bt ax bx cx ∧ Bt ay b_y cy) ∧ cross ax ay bx b_y cx cy = 0) ∨ ((Bt ax bx dx ∧ Bt ay b_y dy) ∧ cross ax ay bx b_y dx dy = 0) ∨
      ((Bt cx dx ax ∧ Bt cy dy ay) ∧ cross cx cy dx dy ax ay = 0) ∨ ((Bt cx dx bx ∧ Bt cy dy b_y) ∧ cross cx cy dx dy bx b_y = 0) := by
  simp only [meets, Bool.or_eq_true, Bool.and_eq_true, decide_eq_true_eq, sgn_diffS, sgn_null, btw_iff]
theorem parted_iff (ax ay bx b_y cx cy dx dy : Int) : parted ax ay bx b_y cx cy dx dy = true ↔
    Apart ax ay bx b_y cx cy dx dy ∨ (¬ (ax = bx ∧ ay = b_y) ∧ sameS (cross ax ay bx b_y cx cy) (cross ax ay bx b_y dx dy)) ∨ (¬ (cx = dx ∧ cy = dy) ∧ sameS (cross cx cy dx dy ax ay) (cross cx cy dx dy bx b_y)) := by
  simp only [parted, Apart, lt_mm, Bool.or_eq_true, Bool.and_eq_true, decide_eq_true_eq, sgn_same, Bool.not_eq_true', Bool.and_eq_false_iff, beq_eq_false_iff_ne, ne_eq, Classical.not_and_iff_not_or_not]

theorem cross_same (ax ay cx cy : Int) : cross ax ay ax ay cx cy = 0 := by unfold cross; grind
theorem cross_first (ax ay bx b_y : Int) : cross ax ay bx b_y ax ay = 0 := by unfold cross; grind
theorem cross_last (ax ay bx b_y : Int) : cross ax ay bx b_y bx b_y = 0 := by unfold cross; grind
theorem not_same_neg {x y : Int} (h : ¬ sameS x y) : ¬ sameS (-x) (-y) ∧ ¬ sameS (-y) (-x) ∧ ¬ sameS y x := by unfold sameS at *; omega

theorem apart_diff {ax ay bx b_y cx cy dx dy : Int} (h1 : diffS (cross ax ay bx b_y cx cy) (cross ax ay bx b_y dx dy)) (h2 : diffS (cross cx cy dx dy ax ay) (cross cx cy dx dy bx b_y)) : ¬ Apart ax ay bx b_y cx cy dx dy := by
  have f := four ax ay bx b_y cx cy dx dy
  have fx := fourx ax ay bx b_y cx cy dx dy
  have fy := foury ax ay bx b_y cx cy dx dy
  generalize cross ax ay bx b_y cx cy = s0 at *
  generalize cross ax ay bx b_y dx dy = s1 at *
  generalize cross cx cy dx dy ax ay = s2 at *
  generalize cross cx cy dx dy bx b_y = s3 at *
  have key : ∀ a b c d : Int, c * s1 - d * s0 + a * s3 - b * s2 = 0 → ¬ (a < c ∧ a < d ∧ b < c ∧ b < d) ∧ ¬ (c < a ∧ c < b ∧ d < a ∧ d < b) := by
    intro a b c d e
    rcases h1 with ⟨p1, p2⟩ | ⟨p1, p2⟩ <;> rcases h2 with ⟨p3, p4⟩ | ⟨p3, p4⟩
    · omega
    · constructor
      · rintro ⟨k1, k2, k3, k4⟩
        exact wsum (w1 := -s1) (w2 := s0) (v1 := -s2) (v2 := s3) (c1 := c) (c2 := d) (a1 := b) (a2 := a) (by omega) p1 (by omega) p4 (by omega) (by simp only [Int.mul_neg]; omega) k3 k4 k1 k2
      · rintro ⟨k1, k2, k3, k4⟩
        exact wsum (w1 := -s2) (w2 := s3) (v1 := -s1) (v2 := s0) (c1 := b) (c2 := a) (a1 := c) (a2 := d) (by omega) p4 (by omega) p1 (by omega) (by simp only [Int.mul_neg]; omega) k2 k1 k4 k3
    · constructor
      · rintro ⟨k1, k2, k3, k4⟩
        exact wsum (w1 := s1) (w2 := -s0) (v1 := s2) (v2 := -s3) (c1 := c) (c2 := d) (a1 := b) (a2 := a) p2 (by omega) p3 (by omega) (by omega) (by simp only [Int.mul_neg]; omega) k3 k4 k1 k2
      · rintro ⟨k1, k2, k3, k4⟩
        exact wsum (w1 := s2) (w2 := -s3) (v1 := s1) (v2 := -s0) (c1 := b) (c2 := a) (a1 := c) (a2 := d) p3 (by omega) p2 (by omega) (by omega) (by simp only [Int.mul_neg]; omega) k2 k1 k4 k3
    · omega
  have kx := key ax bx cx dx fx
  have ky := key ay b_y cy dy fy
  unfold Apart
  omega

/-- An end of the second one on the first one. -/
theorem end_on {ax ay bx b_y cx cy dx dy : Int} (hb : Bt ax bx cx ∧ Bt ay b_y cy) (h0 : cross ax ay bx b_y cx cy = 0) : ¬ sameS (cross cx cy dx dy ax ay) (cross cx cy dx dy bx b_y) := by
  intro hs
  have ex := onx ax ay bx b_y cx cy dx dy h0
  have ey := ony ax ay bx b_y cx cy dx dy h0
  have hs' : sameS (cross cx cy dx dy bx b_y) (cross cx cy dx dy ax ay) := by unfold sameS at *; omega
  have kx := pos_of' hs' ex
  have ky := pos_of' hs' ey
  have kx' := pos_of' hs ex.symm
  have ky' := pos_of' hs ey.symm
  unfold Bt at hb
  have e1 : ax = cx := by omega
  have e2 : ay = cy := by omega
  subst e1
  subst e2
  rw [cross_first] at hs
  unfold sameS at hs
  omega

theorem meets_parted (ax ay bx b_y cx cy dx dy : Int) : meets ax ay bx b_y cx cy dx dy = !parted ax ay bx b_y cx cy dx dy := by
  rw [Bool.eq_iff_iff, Bool.not_eq_true', ← Bool.not_eq_true, meets_iff, parted_iff]
  constructor
  · rintro (⟨h1, h2⟩ | ⟨hb, h0⟩ | ⟨hb, h0⟩ | ⟨hb, h0⟩ | ⟨hb, h0⟩) hp
    · have := apart_diff h1 h2
      rcases hp with hp | ⟨_, hp⟩ | ⟨_, hp⟩
      · exact this hp
      · unfold sameS at hp
        unfold diffS at h1
        omega
      · unfold sameS at hp
        unfold diffS at h2
        omega
    · have := end_on (dx := dx) (dy := dy) hb h0
      rcases hp with hp | ⟨_, hp⟩ | ⟨_, hp⟩
      · clear this h0
        unfold Apart at hp
        unfold Bt at hb
        omega
      · unfold sameS at hp this
        omega
      · unfold sameS at hp this
        omega
    · have := end_on (dx := cx) (dy := cy) hb h0
      rw [cross_swap cx cy, cross_swap cx cy] at this
      rcases hp with hp | ⟨_, hp⟩ | ⟨_, hp⟩
      · clear this h0
        unfold Apart at hp
        unfold Bt at hb
        omega
      · unfold sameS at hp this
        omega
      · unfold sameS at hp this
        omega
    · have := end_on (dx := bx) (dy := b_y) hb h0
      rcases hp with hp | ⟨_, hp⟩ | ⟨_, hp⟩
      · clear this h0
        unfold Apart at hp
        unfold Bt at hb
        omega
      · unfold sameS at hp this
        omega
      · unfold sameS at hp this
        omega
    · have := end_on (dx := ax) (dy := ay) hb h0
      rw [cross_swap ax ay, cross_swap ax ay] at this
      rcases hp with hp | ⟨_, hp⟩ | ⟨_, hp⟩
      · clear this h0
        unfold Apart at hp
        unfold Bt at hb
        omega
      · unfold sameS at hp this
        omega
      · unfold sameS at hp this
        omega
  · intro hp
    simp only [not_or] at hp
    obtain ⟨ha, h1, h2⟩ := hp
    have f := four ax ay bx b_y cx cy dx dy
    by_cases ab : ax = bx ∧ ay = b_y
    · obtain ⟨rfl, rfl⟩ := ab
      rw [cross_same, cross_same]
      by_cases cd : cx = dx ∧ cy = dy
      · obtain ⟨rfl, rfl⟩ := cd
        refine Or.inr (Or.inl ⟨?_, rfl⟩)
        unfold Apart at ha
        unfold Bt
        omega
      · refine Or.inr (Or.inr (Or.inr (Or.inl ⟨?_, ?_⟩)))
        · clear f h1 h2
          unfold Apart at ha
          unfold Bt
          omega
        · unfold sameS at h2
          omega
    · by_cases cd : cx = dx ∧ cy = dy
      · obtain ⟨rfl, rfl⟩ := cd
        rw [cross_same, cross_same] at *
        refine Or.inr (Or.inl ⟨?_, ?_⟩)
        · clear f h1 h2
          unfold Apart at ha
          unfold Bt
          omega
        · unfold sameS at h1
          omega
      · have n1 : ¬ sameS (cross ax ay bx b_y cx cy) (cross ax ay bx b_y dx dy) := fun h => h1 ⟨ab, h⟩
        have n2 : ¬ sameS (cross cx cy dx dy ax ay) (cross cx cy dx dy bx b_y) := fun h => h2 ⟨cd, h⟩
        by_cases z0 : cross ax ay bx b_y cx cy = 0
        · by_cases z1 : cross ax ay bx b_y dx dy = 0
          · have z2 : cross cx cy dx dy ax ay = 0 := by unfold sameS at n2; omega
            have z3 : cross cx cy dx dy bx b_y = 0 := by omega
            unfold Apart at ha
            by_cases hx : ax = bx
            · have := onLine ay ax b_y bx cy cx dy dx (by rw [cross_xy, z0]; rfl) (by rw [cross_xy, z1]; rfl) (by rw [cross_xy, z2]; rfl) (by omega) (by omega)
              rcases this with h | h | h
              · exact Or.inr (Or.inl ⟨h.symm, z0⟩)
              · exact Or.inr (Or.inr (Or.inl ⟨h.symm, z1⟩))
              · exact Or.inr (Or.inr (Or.inr (Or.inl ⟨h.symm, z2⟩)))
            · have := onLine ax ay bx b_y cx cy dx dy z0 z1 z2 hx (by omega)
              rcases this with h | h | h
              · exact Or.inr (Or.inl ⟨h, z0⟩)
              · exact Or.inr (Or.inr (Or.inl ⟨h, z1⟩))
              · exact Or.inr (Or.inr (Or.inr (Or.inl ⟨h, z2⟩)))
          · exact Or.inr (Or.inl ⟨between_of _ _ _ _ _ _ _ _ z0 z1 n2, z0⟩)
        · by_cases z1 : cross ax ay bx b_y dx dy = 0
          · refine Or.inr (Or.inr (Or.inl ⟨between_of _ _ _ _ _ _ cx cy z1 z0 ?_, z1⟩))
            rw [cross_swap cx cy, cross_swap cx cy]
            exact (not_same_neg n2).1
          · by_cases z2 : cross cx cy dx dy ax ay = 0
            · refine Or.inr (Or.inr (Or.inr (Or.inl ⟨between_of _ _ _ _ _ _ bx b_y z2 (by unfold sameS at n1; omega) n1, z2⟩)))
            · by_cases z3 : cross cx cy dx dy bx b_y = 0
              · refine Or.inr (Or.inr (Or.inr (Or.inr ⟨between_of _ _ _ _ _ _ ax ay z3 z2 ?_, z3⟩)))
                rw [cross_swap ax ay, cross_swap ax ay]
                exact (not_same_neg n1).1
              · refine Or.inl ?_
                unfold sameS at n1 n2
                unfold diffS
                omega

theorem apart_swap (ax ay bx b_y cx cy dx dy : Int) : Apart bx b_y ax ay cx cy dx dy ↔ Apart ax ay bx b_y cx cy dx dy := by unfold Apart; omega
theorem apart_turn (ax ay bx b_y cx cy dx dy : Int) : Apart cx cy dx dy ax ay bx b_y ↔ Apart ax ay bx b_y cx cy dx dy := by unfold Apart; omega
theorem sameS_neg (x y : Int) : sameS (-x) (-y) ↔ sameS x y := by unfold sameS; omega
theorem sameS_comm (x y : Int) : sameS x y ↔ sameS y x := by unfold sameS; omega
theorem parted_swap (ax ay bx b_y cx cy dx dy : Int) : parted bx b_y ax ay cx cy dx dy = parted ax ay bx b_y cx cy dx dy := by
  rw [Bool.eq_iff_iff, parted_iff, parted_iff, cross_swap ax ay, cross_swap ax ay, sameS_neg, apart_swap, sameS_comm (cross cx cy dx dy bx b_y)]
  exact or_congr Iff.rfl (or_congr (and_congr (not_congr (by omega)) Iff.rfl) Iff.rfl)
theorem parted_turn (ax ay bx b_y cx cy dx dy : Int) : parted cx cy dx dy ax ay bx b_y = parted ax ay bx b_y cx cy dx dy := by
  rw [Bool.eq_iff_iff, parted_iff, parted_iff, apart_turn]
  exact or_congr Iff.rfl or_comm
theorem parted_self (ax ay bx b_y : Int) : parted ax ay bx b_y ax ay bx b_y = false := by
  rw [← Bool.not_eq_true, parted_iff, cross_first, cross_last]
  unfold Apart sameS
  omega
theorem parted_end (ax ay bx b_y : Int) : parted ax ay bx b_y bx b_y bx b_y = false := by
  rw [← Bool.not_eq_true, parted_iff, cross_last, cross_same, cross_same]
  unfold Apart sameS
  omega
theorem parted_start (ax ay bx b_y : Int) : parted ax ay ax ay ax ay bx b_y = false := by
  rw [← Bool.not_eq_true, parted_iff, cross_same, cross_same, cross_first]
  unfold Apart sameS
  omega

theorem rowL8 (hmix : Try.prog.follows .mixedOrders = true) (W : World) (l : List Value) (h : CksOk [.int .i64, .int .i64, .int .i64, .int .i64, .int .i64, .int .i64, .int .i64, .int .i64] l) :
    Calls Try.prog 8 #[.agg l.toArray] W (fun e w' => e = .returned (.bool true) ∧ Go.RowKit.Below W.heap.size W w') := by
  have r0 := h.rel (ρ := fun _ => (0, 0)) (n := 0) (w := W)
  obtain ⟨ax, _, rfl, _, ay, _, rfl, _, bx, _, rfl, _, b_y, _, rfl, _, cx, _, rfl, _, cy, _, rfl, _, dx, _, rfl, _, dy, _, rfl, _, rfl⟩ := h
  exact law_calls (ng := 0) (ρ := fun _ => (0, 0)) hmix TA_ok (law8 ax ay bx b_y cx cy dx dy meets_parted (parted_swap ..) (parted_turn ..) (parted_self ..) (parted_end ..) (parted_start ..) _ 0) (noMem _ _ _) (fun _ h => by omega) ⟨_, _, rfl, ⟨_, rfl, r0⟩, rfl⟩ held_none
end Go.Proofs.Ytfhjndnempmcaaa.Sy
