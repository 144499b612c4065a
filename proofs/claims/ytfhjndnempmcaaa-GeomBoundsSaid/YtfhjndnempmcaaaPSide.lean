/- What the printed functions of package geom come to: sides and windings. Conditions: points in room. -/
import Derived.Test.YtfhjndnempmcaaaXx0
import Derived.Test.YtfhjndnempmcaaaXx5
import Derived.Test.YtfhjndnempmcaaaXx6
import Derived.Test.YtfhjndnempmcaaaPWide
import Derived.Test.YtfhjndnempmcaaaPGeo
namespace Go.Proofs.Ytfhjndnempmcaaa.PSide
open Go.RowKit Go.Proofs.YtfhjndnempmcaaaW.PrintWords Go.Proofs.Ytfhjndnempmcaaa.X Go.Proofs.Ytfhjndnempmcaaa.PNum Go.Proofs.Ytfhjndnempmcaaa.PWide Go.Proofs.Ytfhjndnempmcaaa.PGeo

/-- A number in room. -/
def R31 (a : Int) : Prop := -2147483648 ≤ a ∧ a ≤ 2147483648
def RP (p : Pt) : Prop := R31 p.1 ∧ R31 p.2
theorem sideEv (ax ay bx b_y cx cy : Int) (ha : RP (ax, ay)) (hb : RP (bx, b_y)) (hc : RP (cx, cy)) : Ev (fun k => geom_Side.f k ax ay bx b_y cx cy) (sgn (cr (ax, ay) (bx, b_y) (cx, cy))) := by
  obtain ⟨⟨h1, h2⟩, h3, h4⟩ := ha
  obtain ⟨⟨h5, h6⟩, h7, h8⟩ := hb
  obtain ⟨⟨h9, h10⟩, h11, h12⟩ := hc
  simp only at h1 h2 h3 h4 h5 h6 h7 h8 h9 h10 h11 h12
  unfold geom_Side.f
  simp only [w64' (n := bx - ax) (by omega) (by omega), w64' (n := cy - ay) (by omega) (by omega), w64' (n := b_y - ay) (by omega) (by omega), w64' (n := cx - ax) (by omega) (by omega)]
  rw [wideMul (bx - ax) (cy - ay) (by omega) (by omega) (by omega) (by omega), wideMul (b_y - ay) (cx - ax) (by omega) (by omega) (by omega) (by omega)]
  simp only [Option.bind_some]
  exact Ev.bind (wideCmp _ _) (Ev.now _)

def pt24 (p : S24) : Pt := (p.f0, p.f1)
def pts (l : List S24) : List Pt := l.map pt24
theorem pts_length (l : List S24) : (pts l).length = l.length := by simp [pts]
theorem rd_eq (l : List S24) (i : Int) : pt24 (rd_T24 l i) = (pts l).getD i.toNat (0, 0) := by
  unfold rd_T24 pts pt24
  rw [List.getD_eq_getElem?_getD, List.getD_eq_getElem?_getD, List.getElem?_map]
  cases l[i.toNat]? <;> rfl
theorem rd_mem {l : List S24} {i : Int} (h0 : 0 ≤ i) (h1 : i < (l.length : Int)) : rd_T24 l i ∈ l := by
  unfold rd_T24
  have h2 : i.toNat < l.length := by omega
  rw [List.getD_eq_getElem?_getD, List.getElem?_eq_getElem h2]
  exact List.getElem_mem h2

/-- The edge, as the loop takes it. -/
theorem ed_one {s p q : Pt} (h1 : p.2 ≤ s.2) (h2 : s.2 < q.2) (h3 : sgn (cr p q s) > 0) : ed s p q = 1 := by
  have : 0 < cr p q s := by unfold sgn at h3; split at h3 <;> (try split at h3) <;> omega
  exact if_pos ⟨h1, h2, this⟩
theorem ed_neg {s p q : Pt} (h1 : q.2 ≤ s.2) (h2 : s.2 < p.2) (h3 : sgn (cr p q s) < 0) : ed s p q = -1 := by
  have : cr p q s < 0 := by unfold sgn at h3; split at h3 <;> (try split at h3) <;> omega
  unfold ed
  rw [if_neg (by omega), if_pos ⟨h1, h2, this⟩]
theorem ed_zero {s p q : Pt} (h1 : ¬ (p.2 ≤ s.2 ∧ s.2 < q.2 ∧ sgn (cr p q s) > 0)) (h2 : ¬ (q.2 ≤ s.2 ∧ s.2 < p.2 ∧ sgn (cr p q s) < 0)) : ed s p q = 0 := by
  unfold ed
  rw [if_neg ?_, if_neg ?_]
  · rintro ⟨a, b, c⟩
    exact h2 ⟨a, b, by rw [sgn_neg c]; omega⟩
  · rintro ⟨a, b, c⟩
    exact h1 ⟨a, b, by rw [sgn_pos c]; omega⟩

/-- One round of the loop: the edge from p to q. -/
theorem windsStep (l : List S24) (n i : Int) (sx sy : Int) (hs : RP (sx, sy)) (hl : ∀ x ∈ l, RP (pt24 x)) (h0 : 0 ≤ i) (h1 : i < (l.length : Int)) (hlen : (l.length : Int) ≤ 4611686018427387904)
    (hn : -4611686018427387904 ≤ n ∧ n ≤ 4611686018427387904) (r : Int)
    (next : Ev (fun k => geom_Winds.l0 k l (n + ed (sx, sy) (pt24 (rd_T24 l (if i = 0 then (l.length : Int) - 1 else i - 1))) (pt24 (rd_T24 l i))) l (l.length : Int) (i + 1) sx sy) r) :
    Ev (fun k => geom_Winds.l0 k l n l (l.length : Int) i sx sy) r := by
  refine Ev.step (fun _ => geom_Winds.l0.eq_2 ..) ?_
  have e1 : wrap64 ((wrap64 (i + (l.length : Int))) - 1) = i + (l.length : Int) - 1 := by unfold wrap64; omega
  have e2 : Int.tmod (i + (l.length : Int) - 1) (l.length : Int) = if i = 0 then (l.length : Int) - 1 else i - 1 := by
    rw [Int.tmod_eq_emod_of_nonneg (by omega)]
    split
    · rename_i hi
      subst hi
      rw [Int.emod_eq_of_lt (by omega) (by omega)]
      omega
    · have : i + (l.length : Int) - 1 = (i - 1) + (l.length : Int) := by omega
      rw [this, Int.add_emod_right, Int.emod_eq_of_lt (by omega) (by omega)]
  have e3 : wrap64 (i + 1) = i + 1 := by unfold wrap64; omega
  simp only [e1, e2]
  refine evPos h1 (evPos h0 (evPos h1 (evNeg (show ¬ ((l.length : Int) = 0) by omega) ?_)))
  have hj0 : 0 ≤ (if i = 0 then (l.length : Int) - 1 else i - 1) := by split <;> omega
  have hj1 : (if i = 0 then (l.length : Int) - 1 else i - 1) < (l.length : Int) := by split <;> omega
  refine evPos hj0 (evPos hj1 ?_)
  have hp := hl _ (rd_mem hj0 hj1)
  have hq := hl _ (rd_mem h0 h1)
  generalize rd_T24 l (if i = 0 then (l.length : Int) - 1 else i - 1) = p at *
  generalize rd_T24 l i = q at *
  obtain ⟨px, py⟩ := p
  obtain ⟨qx, qy⟩ := q
  simp only [pt24] at *
  have w1 : wrap64 (n + 1) = n + 1 := by unfold wrap64; omega
  have w2 : wrap64 (n - 1) = n - 1 := by unfold wrap64; omega
  have side := sideEv px py qx qy sx sy hp hq hs
  -- what follows where the first test says no
  have rest : ed (sx, sy) (px, py) (qx, qy) ≠ 1 → Ev (fun k => geom_Winds.j1 k l n l (l.length : Int) i false sx sy qx qy px py) r := by
    intro hne
    refine Ev.step (fun _ => geom_Winds.j1.eq_2 ..) ?_
    simp only [Bool.false_eq_true, if_false, e3, w1, w2]
    by_cases c1 : qy ≤ sy
    · by_cases c2 : sy < py
      · refine evPos c1 (evPos c2 ?_)
        refine Ev.bind side ?_
        by_cases c3 : sgn (cr (px, py) (qx, qy) (sx, sy)) < 0
        · simp only [if_pos c3]
          rw [ed_neg (p := (px, py)) (q := (qx, qy)) c1 c2 c3] at next
          exact next
        · simp only [if_neg c3]
          rw [ed_zero (fun h => hne (ed_one h.1 h.2.1 h.2.2)) (fun h => c3 h.2.2)] at next
          simpa using next
      · refine evPos c1 (evNeg c2 ?_)
        rw [ed_zero (fun h => hne (ed_one h.1 h.2.1 h.2.2)) (fun h => c2 h.2.1)] at next
        simpa using next
    · refine evNeg c1 ?_
      rw [ed_zero (fun h => hne (ed_one h.1 h.2.1 h.2.2)) (fun h => c1 h.1)] at next
      simpa using next
  by_cases c1 : py ≤ sy
  · by_cases c2 : sy < qy
    · refine evPos c1 (evPos c2 ?_)
      refine Ev.bind side ?_
      by_cases c3 : sgn (cr (px, py) (qx, qy) (sx, sy)) > 0
      · simp only [decide_eq_true c3]
        refine Ev.step (fun _ => geom_Winds.j1.eq_2 ..) ?_
        simp only [if_true, e3, w1]
        rw [ed_one (p := (px, py)) (q := (qx, qy)) c1 c2 c3] at next
        exact next
      · simp only [decide_eq_false c3]
        refine rest ?_
        rw [ed]
        intro he
        split at he
        · rename_i h; exact c3 (by rw [sgn_pos h.2.2]; omega)
        · split at he <;> omega
    · refine evPos c1 (evNeg c2 ?_)
      refine rest ?_
      rw [ed, if_neg (fun h => c2 h.2.1)]
      split <;> omega
  · refine evNeg c1 ?_
    refine rest ?_
    rw [ed, if_neg (fun h => c1 h.1)]
    split <;> omega

theorem windsLoop (l : List S24) (sx sy : Int) (hs : RP (sx, sy)) (hl : ∀ x ∈ l, RP (pt24 x)) (hlen : (l.length : Int) ≤ 1073741824) (d : Nat) : ∀ (i n : Int), 0 ≤ i → i + d = (l.length : Int) → -i ≤ n → n ≤ i →
    Ev (fun k => geom_Winds.l0 k l n l (l.length : Int) i sx sy) (n + ps (sx, sy) ((pts l).getD (if i = 0 then l.length - 1 else i.toNat - 1) (0, 0) :: (pts l).drop i.toNat)) := by
  induction d with
  | zero =>
    intro i n h0 h1 h2 h3
    refine Ev.step (fun _ => geom_Winds.l0.eq_2 ..) ?_
    refine evNeg (show ¬ i < (l.length : Int) by omega) ?_
    rw [List.drop_eq_nil_of_le (by rw [pts_length]; omega), ps_one, Int.add_zero]
    exact Ev.now _
  | succ d ih =>
    intro i n h0 h1 h2 h3
    refine windsStep l n i sx sy hs hl h0 (by omega) (by omega) (by omega) _ ?_
    have hb := ed_bd (sx, sy) (pt24 (rd_T24 l (if i = 0 then (l.length : Int) - 1 else i - 1))) (pt24 (rd_T24 l i))
    have h := ih (i + 1) (n + ed (sx, sy) (pt24 (rd_T24 l (if i = 0 then (l.length : Int) - 1 else i - 1))) (pt24 (rd_T24 l i))) (by omega) (by omega) (by omega) (by omega)
    have e : (pts l).drop i.toNat = pt24 (rd_T24 l i) :: (pts l).drop (i.toNat + 1) := by
      have hlt : i.toNat < (pts l).length := by rw [pts_length]; omega
      rw [List.drop_eq_getElem_cons hlt, rd_eq, List.getD_eq_getElem?_getD, List.getElem?_eq_getElem hlt]
      rfl
    have ep : (pts l).getD (if i = 0 then l.length - 1 else i.toNat - 1) (0, 0) = pt24 (rd_T24 l (if i = 0 then (l.length : Int) - 1 else i - 1)) := by
      rw [rd_eq]
      congr 1
      split <;> omega
    rw [if_neg (show ¬ (i + 1 = 0) by omega)] at h
    have e4 : (i + 1).toNat = i.toNat + 1 := by omega
    rw [e4, Nat.add_sub_cancel] at h
    have e5 : (pts l).getD i.toNat (0, 0) = pt24 (rd_T24 l i) := (rd_eq l i).symm
    rw [e5] at h
    rw [e, ep, ps_cons, ← Int.add_assoc]
    exact h

theorem windsEv (l : List S24) (sx sy : Int) (hs : RP (sx, sy)) (hl : ∀ x ∈ l, RP (pt24 x)) (hlen : (l.length : Int) ≤ 1073741824) : Ev (fun k => geom_Winds.f k l sx sy) (wn (sx, sy) (pts l)) := by
  unfold geom_Winds.f
  have h := windsLoop l sx sy hs hl hlen l.length 0 0 (by omega) (by omega) (by omega) (by omega)
  cases l with
  | nil => simpa [pts, ps_one, wn] using h
  | cons p l =>
    rw [if_pos rfl, Int.zero_add] at h
    have e := wn_last (sx, sy) (pts (p :: l)) (by simp [pts]) (0, 0)
    rw [pts_length] at e
    rw [← e]
    exact h
end Go.Proofs.Ytfhjndnempmcaaa.PSide
