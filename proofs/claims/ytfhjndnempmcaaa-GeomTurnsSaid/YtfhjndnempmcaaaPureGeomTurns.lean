/- GeomTurns' pure statement: a polygon turned round, begun elsewhere, with a point twice, or parted along an edge. Conditions: none. -/
import Derived.Test.YtfhjndnempmcaaaXx0
import Derived.Test.YtfhjndnempmcaaaXx13
import Derived.Test.YtfhjndnempmcaaaPAwake3
namespace Go.Proofs.Ytfhjndnempmcaaa.Pure
open Go.RowKit Go.Proofs.YtfhjndnempmcaaaW.PrintWords Go.Proofs.Ytfhjndnempmcaaa.X Go.Proofs.Ytfhjndnempmcaaa.PNum Go.Proofs.Ytfhjndnempmcaaa.PWide Go.Proofs.Ytfhjndnempmcaaa.PGeo Go.Proofs.Ytfhjndnempmcaaa.PSide Go.Proofs.Ytfhjndnempmcaaa.PAwake3

theorem eta24 (p : S24) : (⟨p.f0, p.f1⟩ : S24) = p := rfl
theorem rd_get {l : List S24} {i : Nat} (h : i < l.length) (j : Int) (hj : j = i) : rd_T24 l j = l[i] := by
  subst hj
  unfold rd_T24
  rw [Int.toNat_natCast, List.getD_eq_getElem?_getD, List.getElem?_eq_getElem h]
  rfl
theorem pts_app (a b : List S24) : pts (a ++ b) = pts a ++ pts b := List.map_append
theorem mem_of {l m : List S24} (h : ∀ x ∈ l, RP (pt24 x)) (hm : ∀ x ∈ m, x ∈ l) : ∀ x ∈ m, RP (pt24 x) := fun x hx => h x (hm x hx)
theorem gtLoop (l : List S24) (sx sy : Int) (fr : Nat) (hs : RP (sx, sy)) (hl : ∀ x ∈ l, RP (pt24 x)) (hlen : l.length ≤ 60) (hfr : fr < l.length) (d : Nat) : ∀ (i : Nat), i + d = l.length →
    Ev (fun k => limnerlaw03_GeomTurns.l0 k l (fr : Int) (wn (sx, sy) (pts l)) (l.reverse.take i) (l.length : Int) (i : Int) sx sy) true := by
  induction d with
  | zero =>
    intro i h1
    have hi : i = l.length := by omega
    subst hi
    refine Ev.step (fun _ => limnerlaw03_GeomTurns.l0.eq_2 ..) (evNeg (by omega) ?_)
    rw [List.take_of_length_le (l := l.reverse) (i := l.length) (by simp)]
    have wb := wn_bd (sx, sy) (pts l)
    rw [pts_length] at wb
    have e1 : wrap64 ((l.length : Int) - 1) = ((l.length - 1 : Nat) : Int) := by unfold wrap64; omega
    have e2 : wrap64 ((fr : Int) + 1) = ((fr + 1 : Nat) : Int) := by unfold wrap64; omega
    have e3 : wrap64 (-wn (sx, sy) (pts l)) = -wn (sx, sy) (pts l) := by unfold wrap64; omega
    rw [e1, e2, e3]
    simp only [Int.toNat_natCast]
    have hne : l ≠ [] := by intro h; subst h; simp at hfr
    have hlast : l.length - 1 < l.length := by omega
    rw [rd_get hlast _ rfl, rd_get (show 0 < l.length by omega) 0 rfl]
    have sub1 : ∀ x ∈ l.drop fr, x ∈ l := fun x hx => List.mem_of_mem_drop hx
    have sub2 : ∀ x ∈ l.take fr, x ∈ l := fun x hx => List.mem_of_mem_take hx
    have sub3 : ∀ x ∈ l.take (fr + 1), x ∈ l := fun x hx => List.mem_of_mem_take hx
    refine Ev.bind (Ev.now _) (evPos (by omega) (evPos (by omega) (Ev.bind (Ev.now _) (evPos (by simp; omega) (Ev.bind (Ev.now _) (Ev.bind (Ev.now _) (evPos (by simp; omega) ?_)))))))
    refine Ev.bind (Ev.now _) (evPos (by simp; omega) (Ev.bind (Ev.now _) (evPos (by omega) (evPos (by omega) (Ev.bind (Ev.now _) (evPos (by simp; omega) ?_))))))
    refine Ev.bind (Ev.now _) (evPos (by omega) (evPos (by omega) (Ev.bind (Ev.now _) (evPos (by simp; omega) (evPos (by omega) (Ev.bind (Ev.now _) (Ev.bind (Ev.now _) (evPos (by simp; omega) ?_))))))))
    -- back
    refine Ev.bind (windsEv l.reverse sx sy hs (mem_of hl (by simp)) (by simp; omega)) (evPos ?_ ?_)
    · show wn _ (l.reverse.map pt24) = _
      rw [List.map_reverse]
      exact wn_rev _ _
    -- begun elsewhere
    refine Ev.bind (windsEv _ sx sy hs (mem_of hl ?_) (by simp; omega)) (evPos ?_ ?_)
    · intro x hx
      simp only [List.nil_append, List.mem_append] at hx
      exact hx.elim (sub1 x) (sub2 x)
    · rw [List.nil_append, pts_app, wn_rot, ← pts_app, List.take_append_drop]
    -- a point twice
    refine Ev.bind (windsEv _ sx sy hs (mem_of hl ?_) (by simp; omega)) (evPos ?_ ?_)
    · intro x hx
      simp only [List.nil_append, List.mem_append, List.mem_singleton] at hx
      rcases hx with hx | rfl
      · exact hx
      · exact List.getElem_mem hlast
    · rw [List.nil_append, eta24]
      have el : l = l.take (l.length - 1) ++ [l[l.length - 1]] := by
        rw [List.take_append_getElem]
        exact (List.take_of_length_le (by omega)).symm
      have ew : pts l = pts (l.take (l.length - 1)) ++ [pt24 l[l.length - 1]] := (congrArg pts el).trans (pts_app _ _)
      show wn _ (pts (l ++ [l[l.length - 1]])) = wn _ (pts l)
      rw [pts_app]
      show wn _ (pts l ++ [pt24 l[l.length - 1]]) = wn _ (pts l)
      rw [ew, wn_twice]
    -- parted
    refine Ev.bind (windsEv _ sx sy hs (mem_of hl ?_) (by simp; omega)) ?_
    · intro x hx
      simp only [List.nil_append] at hx
      exact sub3 x hx
    refine Ev.bind (windsEv _ sx sy hs (mem_of hl ?_) (by simp; omega)) (evPos ?_ ?_)
    · intro x hx
      simp only [List.singleton_append, List.mem_cons] at hx
      rcases hx with rfl | hx
      · exact List.getElem_mem _
      · exact sub1 x hx
    · have b1 := wn_bd (sx, sy) (pts (l.take (fr + 1)))
      have b2 := wn_bd (sx, sy) (pts ([l[0]] ++ l.drop fr))
      rw [pts_length] at b1 b2
      have l1 : (l.take (fr + 1)).length ≤ 60 := by simp; omega
      have l2 : ([l[0]] ++ l.drop fr).length ≤ 61 := by simp; omega
      show wrap64 (wn _ (pts ([] ++ l.take (fr + 1))) + wn _ (pts ([l[0]] ++ l.drop fr))) = wn _ (pts l)
      rw [List.nil_append, w64' (by omega) (by omega)]
      obtain ⟨p, q, rfl⟩ : ∃ p q, l = p :: q := by
        cases l with
        | nil => exact absurd rfl hne
        | cons p q => exact ⟨p, q, rfl⟩
      have h2 := wn_parted (sx, sy) (pt24 p) (pts q) fr (by simpa [pts] using hfr)
      have e5 : pts ((p :: q).take (fr + 1)) = (pt24 p :: pts q).take (fr + 1) := List.map_take
      have e6 : pts ([(p :: q)[0]] ++ (p :: q).drop fr) = pt24 p :: (pt24 p :: pts q).drop fr := by
        rw [pts_app]
        show pt24 p :: pts ((p :: q).drop fr) = _
        congr 1
        exact List.map_drop
      rw [e5, e6]
      exact h2
    exact Ev.bind awakeEv (Ev.now _)
  | succ d ih =>
    intro i h1
    have hi : i < l.length := by omega
    refine Ev.step (fun _ => limnerlaw03_GeomTurns.l0.eq_2 ..) (evPos (by omega) ?_)
    have e1 : wrap64 ((wrap64 ((l.length : Int) - 1)) - (i : Int)) = ((l.length - 1 - i : Nat) : Int) := by unfold wrap64; omega
    have e2 : wrap64 ((i : Int) + 1) = ((i + 1 : Nat) : Int) := by unfold wrap64; omega
    rw [e1, e2]
    refine evPos (by omega) (evPos (by omega) (Ev.bind (Ev.now _) (evPos (by simp; omega) ?_)))
    have hj : l.length - 1 - i < l.length := by omega
    rw [rd_get hj _ rfl]
    have e3 : l.reverse.take i ++ [(⟨(l[l.length - 1 - i]).f0, (l[l.length - 1 - i]).f1⟩ : S24)] = l.reverse.take (i + 1) := by
      have hi' : i < l.reverse.length := by simpa using hi
      rw [← List.take_append_getElem hi', List.getElem_reverse]
    rw [e3]
    exact ih (i + 1) (by omega)
theorem GeomTurns : limnerlaw03_GeomTurns.Pure := by
  intro l sx sy fr hl hs hfr
  refine Ev.rounds ?_
  unfold limnerlaw03_GeomTurns.f
  have aw : ∀ b : Bool, b = true → Ev (fun k => limnerlaw03_GeomTurns.j0 k l fr b sx sy) true := by
    intro b hb
    exact Ev.step (fun _ => limnerlaw03_GeomTurns.j0.eq_2 ..) (evPos hb (Ev.bind awakeEv (Ev.now _)))
  by_cases c : (l.length : Int) > 60
  · exact evPos c (aw _ rfl)
  · refine evNeg c ?_
    by_cases c0 : (l.length : Int) = 0
    · exact evPos c0 (aw _ rfl)
    · refine evNeg c0 (Ev.bind (inEv l (by omega)) ?_)
      by_cases c1 : (pts l).all inR = true
      · refine evPos c1 (Ev.bind (inEv _ (by simp)) ?_)
        by_cases c2 : (pts [(⟨sx, sy⟩ : S24)]).all inR = true
        · refine evPos c2 ?_
          by_cases c3 : fr < 0
          · exact evPos c3 (aw _ rfl)
          · refine evNeg c3 ?_
            by_cases c4 : fr ≥ (l.length : Int)
            · exact aw _ (by simpa using c4)
            · have hs2 := all_in c2 ⟨sx, sy⟩ (by simp)
              rw [decide_eq_false c4]
              refine Ev.step (fun _ => limnerlaw03_GeomTurns.j0.eq_2 ..) (evNeg (by simp) ?_)
              refine Ev.bind (windsEv l sx sy hs2 (all_in c1) (by omega)) ?_
              obtain ⟨n, rfl⟩ := Int.eq_ofNat_of_zero_le (show 0 ≤ fr by omega)
              exact gtLoop l sx sy n hs2 (all_in c1) (by omega) (by omega) l.length 0 (by omega)
        · exact evNeg c2 (aw _ rfl)
      · exact evNeg c1 (aw _ rfl)
end Go.Proofs.Ytfhjndnempmcaaa.Pure
