/- What the reference's windings come to; lists of points in room; the fixed answer. Conditions: points in room. -/
import Derived.Test.YtfhjndnempmcaaaXx0
import Derived.Test.YtfhjndnempmcaaaXx9
import Derived.Test.YtfhjndnempmcaaaPRef3
namespace Go.Proofs.Ytfhjndnempmcaaa.PRefW
open Go.RowKit Go.Proofs.YtfhjndnempmcaaaW.PrintWords Go.Proofs.Ytfhjndnempmcaaa.X Go.Proofs.Ytfhjndnempmcaaa.PNum Go.Proofs.Ytfhjndnempmcaaa.PWide Go.Proofs.Ytfhjndnempmcaaa.PGeo Go.Proofs.Ytfhjndnempmcaaa.PSide Go.Proofs.Ytfhjndnempmcaaa.PRef3

def pt28 (p : S28) : Pt := (p.f0, p.f1)
def pts28 (l : List S28) : List Pt := l.map pt28
theorem pts28_length (l : List S28) : (pts28 l).length = l.length := by simp [pts28]
theorem rd28_eq (l : List S28) (i : Int) : pt28 (rd_T28 l i) = (pts28 l).getD i.toNat (0, 0) := by
  unfold rd_T28 pts28 pt28
  rw [List.getD_eq_getElem?_getD, List.getD_eq_getElem?_getD, List.getElem?_map]
  cases l[i.toNat]? <;> rfl
theorem rd28_mem {l : List S28} {i : Int} (h0 : 0 ≤ i) (h1 : i < (l.length : Int)) : rd_T28 l i ∈ l := by
  unfold rd_T28
  have h2 : i.toNat < l.length := by omega
  rw [List.getD_eq_getElem?_getD, List.getElem?_eq_getElem h2]
  exact List.getElem_mem h2

/-- One edge, from p to q, behind the choice of q. -/
theorem refEdge (l : List S28) (n i : Int) (sx sy px py qx qy : Int) (hs : RP (sx, sy)) (hp : RP (px, py)) (hq : RP (qx, qy)) (hi : 0 ≤ i ∧ i ≤ 4611686018427387904)
    (hn : -4611686018427387904 ≤ n ∧ n ≤ 4611686018427387904) (r : Int)
    (next : Ev (fun k => limnerref03_Winds.l0 k l (n + ed (sx, sy) (px, py) (qx, qy)) (i + 1) sx sy) r) :
    Ev (fun k => limnerref03_Winds.j1 k l n i sx sy px py qx qy) r := by
  have e3 : wrap64 (i + 1) = i + 1 := by unfold wrap64; omega
  have w1 : wrap64 (n + 1) = n + 1 := by unfold wrap64; omega
  have w2 : wrap64 (n - 1) = n - 1 := by unfold wrap64; omega
  have side := refSideEv px py qx qy sx sy hp hq hs
  have noneg : (py ≤ sy ∧ sy < qy) → ¬ (qy ≤ sy ∧ sy < py) := by omega
  -- the second test, where the first said no
  have rest : ed (sx, sy) (px, py) (qx, qy) ≠ 1 → Ev (fun k => limnerref03_Winds.j2 k l n i false sx sy px py qx qy) r := by
    intro hne
    refine Ev.step (fun _ => limnerref03_Winds.j2.eq_2 ..) (evNeg (by simp) ?_)
    rw [e3, w2]
    by_cases c1 : qy ≤ sy
    · refine evPos c1 ?_
      by_cases c2 : sy < py
      · refine evPos c2 (Ev.bind side ?_)
        by_cases c3 : sgn (cr (px, py) (qx, qy) (sx, sy)) < 0
        · refine evPos c3 ?_
          rw [ed_neg (p := (px, py)) (q := (qx, qy)) c1 c2 c3] at next
          exact next
        · refine evNeg c3 ?_
          rw [ed_zero (fun h => hne (ed_one h.1 h.2.1 h.2.2)) (fun h => c3 h.2.2)] at next
          simpa using next
      · refine evNeg c2 ?_
        rw [ed_zero (fun h => hne (ed_one h.1 h.2.1 h.2.2)) (fun h => c2 h.2.1)] at next
        simpa using next
    · refine evNeg c1 ?_
      rw [ed_zero (fun h => hne (ed_one h.1 h.2.1 h.2.2)) (fun h => c1 h.1)] at next
      simpa using next
  refine Ev.step (fun _ => limnerref03_Winds.j1.eq_2 ..) ?_
  by_cases c1 : py ≤ sy
  · refine evPos c1 ?_
    by_cases c2 : sy < qy
    · refine evPos c2 (Ev.bind side ?_)
      by_cases c3 : sgn (cr (px, py) (qx, qy) (sx, sy)) > 0
      · simp only [decide_eq_true c3]
        refine Ev.step (fun _ => limnerref03_Winds.j2.eq_2 ..) (evPos rfl ?_)
        rw [e3, w1]
        rw [ed_one (p := (px, py)) (q := (qx, qy)) c1 c2 c3] at next
        by_cases c4 : qy ≤ sy
        · refine evPos c4 (evNeg (by omega) next)
        · exact evNeg c4 next
      · simp only [decide_eq_false c3]
        refine rest ?_
        rw [ed]
        intro he
        split at he
        · rename_i h; exact c3 (by rw [sgn_pos h.2.2]; omega)
        · split at he <;> omega
    · refine evNeg c2 (rest ?_)
      rw [ed, if_neg (fun h => c2 h.2.1)]
      split <;> omega
  · refine evNeg c1 (rest ?_)
    rw [ed, if_neg (fun h => c1 h.1)]
    split <;> omega
theorem refLoop (h : S28) (t : List S28) (sx sy : Int) (hs : RP (sx, sy)) (hl : ∀ x ∈ h :: t, RP (pt28 x)) (hlen : ((h :: t).length : Int) ≤ 1073741824) (d : Nat) : ∀ (i n : Int), 0 ≤ i → i + d = ((h :: t).length : Int) → -i ≤ n → n ≤ i →
    Ev (fun k => limnerref03_Winds.l0 k (h :: t) n i sx sy) (n + ps (sx, sy) ((pts28 (h :: t)).drop i.toNat ++ [pt28 h])) := by
  generalize hL : h :: t = l at *
  induction d with
  | zero =>
    intro i n h0 h1 h2 h3
    refine Ev.step (fun _ => limnerref03_Winds.l0.eq_2 ..) (evNeg (by omega) ?_)
    rw [List.drop_eq_nil_of_le (by rw [pts28_length]; omega)]
    simp only [List.nil_append, ps_one, Int.add_zero]
    exact Ev.now _
  | succ d ih =>
    intro i n h0 h1 h2 h3
    have e3 : wrap64 (i + 1) = i + 1 := by unfold wrap64; omega
    refine Ev.step (fun _ => limnerref03_Winds.l0.eq_2 ..) ?_
    rw [e3]
    refine evPos (by omega) (evPos h0 (evPos (by omega) ?_))
    have e : (pts28 l).drop i.toNat = pt28 (rd_T28 l i) :: (pts28 l).drop (i.toNat + 1) := by
      have hlt : i.toNat < (pts28 l).length := by rw [pts28_length]; omega
      rw [List.drop_eq_getElem_cons hlt, rd28_eq, List.getD_eq_getElem?_getD, List.getElem?_eq_getElem hlt]
      rfl
    have hp := hl _ (rd28_mem h0 (show i < (l.length : Int) by omega))
    by_cases c : i + 1 < (l.length : Int)
    · refine evPos c (evPos (by omega) ?_)
      have hq := hl _ (rd28_mem (show 0 ≤ i + 1 by omega) c)
      refine refEdge l n i sx sy _ _ _ _ hs hp hq (by omega) (by omega) _ ?_
      have hb := ed_bd (sx, sy) (pt28 (rd_T28 l i)) (pt28 (rd_T28 l (i + 1)))
      have hh := ih (i + 1) (n + ed (sx, sy) (pt28 (rd_T28 l i)) (pt28 (rd_T28 l (i + 1)))) (by omega) (by omega) (by omega) (by omega)
      have e4 : (i + 1).toNat = i.toNat + 1 := by omega
      rw [e4] at hh
      have e5 : (pts28 l).drop (i.toNat + 1) = pt28 (rd_T28 l (i + 1)) :: (pts28 l).drop (i.toNat + 1 + 1) := by
        have hlt : i.toNat + 1 < (pts28 l).length := by rw [pts28_length]; omega
        rw [List.drop_eq_getElem_cons hlt, rd28_eq, e4, List.getD_eq_getElem?_getD, List.getElem?_eq_getElem hlt]
        rfl
      rw [e]
      rw [e5] at hh ⊢
      rw [List.cons_append, List.cons_append, ps_cons, ← Int.add_assoc]
      exact hh
    · refine evNeg c ?_
      have e6 : rd_T28 l 0 = h := by subst hL; rfl
      have hq := hl _ (rd28_mem (show (0 : Int) ≤ 0 by omega) (show (0 : Int) < (l.length : Int) by omega))
      refine refEdge l n i sx sy _ _ _ _ hs hp hq (by omega) (by omega) _ ?_
      have hb := ed_bd (sx, sy) (pt28 (rd_T28 l i)) (pt28 (rd_T28 l 0))
      have hh := ih (i + 1) (n + ed (sx, sy) (pt28 (rd_T28 l i)) (pt28 (rd_T28 l 0))) (by omega) (by omega) (by omega) (by omega)
      have e4 : (i + 1).toNat = i.toNat + 1 := by omega
      have e7 : (pts28 l).drop (i.toNat + 1) = [] := List.drop_eq_nil_of_le (by rw [pts28_length]; omega)
      rw [e4, e7] at hh
      rw [e, e7]
      show Ev _ (n + ps (sx, sy) (pt28 (rd_T28 l i) :: pt28 h :: []))
      have e8 : pt28 h = pt28 (rd_T28 l 0) := by rw [e6]
      rw [e8] at hh ⊢
      rw [ps_cons, ← Int.add_assoc]
      exact hh
theorem refWindsEv (l : List S28) (sx sy : Int) (hs : RP (sx, sy)) (hl : ∀ x ∈ l, RP (pt28 x)) (hlen : (l.length : Int) ≤ 1073741824) : Ev (fun k => limnerref03_Winds.f k l sx sy) (wn (sx, sy) (pts28 l)) := by
  unfold limnerref03_Winds.f
  cases l with
  | nil =>
    refine Ev.step (fun _ => limnerref03_Winds.l0.eq_2 ..) (evNeg (by simp) ?_)
    exact Ev.now _
  | cons h t =>
    have hh := refLoop h t sx sy hs hl hlen (h :: t).length 0 0 (by omega) (by omega) (by omega) (by omega)
    rw [Int.zero_add] at hh
    exact hh
end Go.Proofs.Ytfhjndnempmcaaa.PRefW
