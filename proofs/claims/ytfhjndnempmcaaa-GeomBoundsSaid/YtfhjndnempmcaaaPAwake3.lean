/- The fixed answer of layer 3's laws, and lists in room. Conditions: none. -/
import Derived.Test.YtfhjndnempmcaaaXx0
import Derived.Test.YtfhjndnempmcaaaXx3
import Derived.Test.YtfhjndnempmcaaaXx7
import Derived.Test.YtfhjndnempmcaaaXx8
import Derived.Test.YtfhjndnempmcaaaPSide
namespace Go.Proofs.Ytfhjndnempmcaaa.PAwake3
open Go.RowKit Go.Proofs.YtfhjndnempmcaaaW.PrintWords Go.Proofs.Ytfhjndnempmcaaa.X Go.Proofs.Ytfhjndnempmcaaa.PNum Go.Proofs.Ytfhjndnempmcaaa.PWide Go.Proofs.Ytfhjndnempmcaaa.PGeo Go.Proofs.Ytfhjndnempmcaaa.PSide

theorem boxEmpty (a b c d : Int) : geom_Box_Empty.f a b c d = some (decide (a ≥ c ∨ b ≥ d)) := by
  unfold geom_Box_Empty.f
  split
  · rename_i h
    congr 1
    symm
    rw [decide_eq_true_iff]
    exact .inl h
  · rename_i h
    congr 1
    rw [decide_eq_decide]
    exact ⟨.inr, fun hh => hh.elim (fun x => absurd x h) id⟩
/-- What a box and a point's own box are together. -/
def jn (b c : Int × Int × Int × Int) : Int × Int × Int × Int :=
  if (b.1 ≥ b.2.2.1 ∨ b.2.1 ≥ b.2.2.2) ∧ (c.1 ≥ c.2.2.1 ∨ c.2.1 ≥ c.2.2.2) then (0, 0, 0, 0)
  else if b.1 ≥ b.2.2.1 ∨ b.2.1 ≥ b.2.2.2 then c
  else if c.1 ≥ c.2.2.1 ∨ c.2.1 ≥ c.2.2.2 then b
  else (min b.1 c.1, min b.2.1 c.2.1, max b.2.2.1 c.2.2.1, max b.2.2.2 c.2.2.2)
theorem mn_eq (a b : Int) : mn a b = min a b := by unfold mn; omega
theorem mx_eq (a b : Int) : mx a b = max a b := by unfold mx; omega
theorem joinEv (a0 a1 a2 a3 b0 b1 b2 b3 : Int) : Ev (fun k => geom_Box_Join.f k a0 a1 a2 a3 b0 b1 b2 b3) (jn (a0, a1, a2, a3) (b0, b1, b2, b3)) := by
  unfold geom_Box_Join.f jn
  refine evSome (boxEmpty ..) ?_
  by_cases c1 : a0 ≥ a2 ∨ a1 ≥ a3
  · refine evPos (by simpa using c1) (evSome (boxEmpty ..) (Ev.step (fun _ => geom_Box_Join.j0.eq_2 ..) ?_))
    by_cases c2 : b0 ≥ b2 ∨ b1 ≥ b3
    · refine evPos (by simpa using c2) ?_
      rw [if_pos ⟨c1, c2⟩]
      exact Ev.now _
    · refine evNeg (by simpa using c2) (evSome (boxEmpty ..) (evPos (by simpa using c1) ?_))
      rw [if_neg (fun h => c2 h.2), if_pos c1]
      exact Ev.now _
  · refine evNeg (by simpa using c1) (Ev.step (fun _ => geom_Box_Join.j0.eq_2 ..) (evNeg (by simp) (evSome (boxEmpty ..) (evNeg (by simpa using c1) (evSome (boxEmpty ..) ?_)))))
    by_cases c2 : b0 ≥ b2 ∨ b1 ≥ b3
    · refine evPos (by simpa using c2) ?_
      rw [if_neg (fun h => c1 h.1), if_neg c1, if_pos c2]
      exact Ev.now _
    · refine evNeg (by simpa using c2) ?_
      rw [if_neg (fun h => c1 h.1), if_neg c1, if_neg c2]
      simp only [mn_eq, mx_eq]
      exact Ev.now _
/-- The bound of points, from a box on. -/
def bnd (b : Int × Int × Int × Int) : List Pt → Int × Int × Int × Int
  | [] => b
  | p :: l => bnd (jn b (p.1, p.2, p.1 + 1, p.2 + 1)) l
theorem boundLoop (l : List S24) (hl : ∀ x ∈ l, RP (pt24 x)) (hlen : (l.length : Int) ≤ 4611686018427387904) (d : Nat) : ∀ (i b0 b1 b2 b3 : Int), 0 ≤ i → i + d = (l.length : Int) →
    Ev (fun k => geom_Bound.l0 k l (l.length : Int) i b0 b1 b2 b3) (bnd (b0, b1, b2, b3) ((pts l).drop i.toNat)) := by
  induction d with
  | zero =>
    intro i b0 b1 b2 b3 h0 h1
    refine Ev.step (fun _ => geom_Bound.l0.eq_2 ..) (evNeg (by omega) ?_)
    rw [List.drop_eq_nil_of_le (by rw [pts_length]; omega)]
    exact Ev.now _
  | succ d ih =>
    intro i b0 b1 b2 b3 h0 h1
    have hi : i < (l.length : Int) := by omega
    have hp := hl _ (rd_mem h0 hi)
    obtain ⟨⟨p1, p2⟩, p3, p4⟩ := hp
    simp only [pt24] at p1 p2 p3 p4
    refine Ev.step (fun _ => geom_Bound.l0.eq_2 ..) (evPos hi (evPos h0 (evPos hi ?_)))
    rw [w64' (n := (rd_T24 l i).f0 + 1) (by omega) (by omega), w64' (n := (rd_T24 l i).f1 + 1) (by omega) (by omega), w64' (n := i + 1) (by omega) (by omega)]
    refine Ev.bind (joinEv ..) ?_
    have e : (pts l).drop i.toNat = pt24 (rd_T24 l i) :: (pts l).drop (i + 1).toNat := by
      have hlt : i.toNat < (pts l).length := by rw [pts_length]; omega
      have e4 : (i + 1).toNat = i.toNat + 1 := by omega
      rw [List.drop_eq_getElem_cons hlt, rd_eq, List.getD_eq_getElem?_getD, List.getElem?_eq_getElem hlt, e4]
      rfl
    rw [e]
    exact ih (i + 1) _ _ _ _ (by omega) (by omega)
theorem boundEv (l : List S24) (hl : ∀ x ∈ l, RP (pt24 x)) (hlen : (l.length : Int) ≤ 4611686018427387904) : Ev (fun k => geom_Bound.f k l) (bnd (0, 0, 0, 0) (pts l)) := by
  unfold geom_Bound.f
  exact boundLoop l hl hlen l.length 0 0 0 0 0 (by omega) (by omega)
/-- Is it in room? -/
def inR (p : Pt) : Bool := decide (-2147483648 ≤ p.1 ∧ p.1 ≤ 2147483648) && decide (-2147483648 ≤ p.2 ∧ p.2 ≤ 2147483648)
theorem inR_iff (p : Pt) : inR p = true ↔ RP p := by unfold inR RP R31; simp
theorem inLoop (l : List S24) (hlen : (l.length : Int) ≤ 4611686018427387904) (d : Nat) : ∀ i : Int, 0 ≤ i → i + d = (l.length : Int) → Ev (fun k => limnerlaw03_in.l0 k l (l.length : Int) i) (((pts l).drop i.toNat).all inR) := by
  induction d with
  | zero =>
    intro i h0 h1
    refine Ev.step (fun _ => limnerlaw03_in.l0.eq_2 ..) (evNeg (by omega) ?_)
    rw [List.drop_eq_nil_of_le (by rw [pts_length]; omega)]
    exact Ev.now _
  | succ d ih =>
    intro i h0 h1
    have hi : i < (l.length : Int) := by omega
    refine Ev.step (fun _ => limnerlaw03_in.l0.eq_2 ..) (evPos hi (evPos h0 (evPos hi ?_)))
    rw [w64' (n := i + 1) (by omega) (by omega)]
    have e : (pts l).drop i.toNat = pt24 (rd_T24 l i) :: (pts l).drop (i + 1).toNat := by
      have hlt : i.toNat < (pts l).length := by rw [pts_length]; omega
      have e4 : (i + 1).toNat = i.toNat + 1 := by omega
      rw [List.drop_eq_getElem_cons hlt, rd_eq, List.getD_eq_getElem?_getD, List.getElem?_eq_getElem hlt, e4]
      rfl
    rw [e, List.all_cons]
    have hh := ih (i + 1) (by omega) (by omega)
    refine evSome (refIn _) ?_
    by_cases c1 : -2147483648 ≤ (rd_T24 l i).f0 ∧ (rd_T24 l i).f0 ≤ 2147483648
    · refine evPos (by simpa using c1) (evSome (refIn _) ?_)
      by_cases c2 : -2147483648 ≤ (rd_T24 l i).f1 ∧ (rd_T24 l i).f1 ≤ 2147483648
      · refine evPos (by simpa using c2) ?_
        have : inR (pt24 (rd_T24 l i)) = true := (inR_iff _).2 ⟨c1, c2⟩
        rw [this, Bool.true_and]
        exact hh
      · refine evNeg (by simpa using c2) ?_
        have : inR (pt24 (rd_T24 l i)) = false := by rw [← Bool.not_eq_true, inR_iff]; exact fun h => c2 h.2
        rw [this, Bool.false_and]
        exact Ev.now _
    · refine evNeg (by simpa using c1) ?_
      have : inR (pt24 (rd_T24 l i)) = false := by rw [← Bool.not_eq_true, inR_iff]; exact fun h => c1 h.1
      rw [this, Bool.false_and]
      exact Ev.now _
theorem inEv (l : List S24) (hlen : (l.length : Int) ≤ 4611686018427387904) : Ev (fun k => limnerlaw03_in.f k l) ((pts l).all inR) := by
  unfold limnerlaw03_in.f
  exact inLoop l hlen l.length 0 (by omega) (by omega)
theorem all_in {l : List S24} (h : (pts l).all inR = true) : ∀ x ∈ l, RP (pt24 x) := by
  intro x hx
  rw [List.all_eq_true] at h
  exact (inR_iff _).1 (h _ (List.mem_map_of_mem hx))
theorem atEq (a b : Int) : limnerlaw03_at.f a b = some (a, b) := rfl
theorem refEq (a b : Int) : limnerlaw03_ref.f a b = some (a, b) := rfl
theorem awakeEv : Ev (fun k => limnerlaw03_awake.f k) true := by
  unfold limnerlaw03_awake.f
  have rp : ∀ a b : Int, 0 ≤ a → a ≤ 2 → 0 ≤ b → b ≤ 2 → RP (a, b) := by
    intro a b h1 h2 h3 h4
    exact ⟨⟨by show (-2147483648 : Int) ≤ a; omega, by show a ≤ (2147483648 : Int); omega⟩, by show (-2147483648 : Int) ≤ b; omega, by show b ≤ (2147483648 : Int); omega⟩
  refine evSome (atEq ..) (evSome (atEq ..) (evSome (atEq ..) ?_))
  refine Ev.bind (sideEv 0 0 2 0 1 1 (rp _ _ (by omega) (by omega) (by omega) (by omega)) (rp _ _ (by omega) (by omega) (by omega) (by omega)) (rp _ _ (by omega) (by omega) (by omega) (by omega))) ?_
  refine evPos (by decide) ?_
  refine evSome (atEq ..) (evSome (atEq ..) (evSome (atEq ..) (evSome (atEq ..) (evSome (atEq ..) ?_))))
  refine Ev.bind (windsEv _ 1 1 (rp _ _ (by omega) (by omega) (by omega) (by omega)) ?_ (by simp)) ?_
  · intro x hx
    simp only [List.mem_cons, List.not_mem_nil, or_false] at hx
    rcases hx with rfl | rfl | rfl | rfl <;> exact rp _ _ (by simp) (by simp) (by simp) (by simp)
  refine evPos (by decide) (evSome (atEq ..) ?_)
  refine Ev.bind (boundEv _ ?_ (by simp)) ?_
  · intro x hx
    simp only [List.mem_cons, List.not_mem_nil, or_false] at hx
    rcases hx with rfl
    exact rp _ _ (by simp) (by simp) (by simp) (by simp)
  exact Ev.now _
end Go.Proofs.Ytfhjndnempmcaaa.PAwake3
