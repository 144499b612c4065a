/- GeomWinds' pure statement: a polygon in room goes round a point as often as the reference says. Conditions: none. -/
import Derived.Test.YtfhjndnempmcaaaXx0
import Derived.Test.YtfhjndnempmcaaaXx10
import Derived.Test.YtfhjndnempmcaaaPRefW
import Derived.Test.YtfhjndnempmcaaaPAwake3
namespace Go.Proofs.Ytfhjndnempmcaaa.Pure
open Go.RowKit Go.Proofs.YtfhjndnempmcaaaW.PrintWords Go.Proofs.Ytfhjndnempmcaaa.X Go.Proofs.Ytfhjndnempmcaaa.PNum Go.Proofs.Ytfhjndnempmcaaa.PWide Go.Proofs.Ytfhjndnempmcaaa.PGeo Go.Proofs.Ytfhjndnempmcaaa.PSide Go.Proofs.Ytfhjndnempmcaaa.PRef3 Go.Proofs.Ytfhjndnempmcaaa.PRefW Go.Proofs.Ytfhjndnempmcaaa.PAwake3

def back (p : Pt) : S28 := ⟨p.1, p.2⟩
theorem gwLoop (l : List S24) (sx sy : Int) (hs : RP (sx, sy)) (hl : ∀ x ∈ l, RP (pt24 x)) (hlen : (l.length : Int) ≤ 60) (d : Nat) : ∀ (i : Int), 0 ≤ i → i + d = (l.length : Int) →
    Ev (fun k => limnerlaw03_GeomWinds.l0 k l (((pts l).take i.toNat).map back) l (l.length : Int) i sx sy) true := by
  induction d with
  | zero =>
    intro i h0 h1
    refine Ev.step (fun _ => limnerlaw03_GeomWinds.l0.eq_2 ..) (evNeg (by omega) ?_)
    rw [List.take_of_length_le (by rw [pts_length]; omega)]
    have e : pts28 ((pts l).map back) = pts l := by
      unfold pts28
      rw [List.map_map]
      exact List.map_id'' (fun _ => rfl) _
    refine Ev.bind (windsEv l sx sy hs hl (by omega)) (evSome (refEq ..) ?_)
    refine Ev.bind (refWindsEv ((pts l).map back) sx sy hs ?_ (by rw [List.length_map, pts_length]; omega)) ?_
    · intro x hx
      obtain ⟨p, hp, rfl⟩ := List.mem_map.1 hx
      obtain ⟨q, hq, rfl⟩ := List.mem_map.1 hp
      exact hl q hq
    · rw [e]
      exact evPos rfl (Ev.bind awakeEv (Ev.now _))
  | succ d ih =>
    intro i h0 h1
    have hi : i < (l.length : Int) := by omega
    refine Ev.step (fun _ => limnerlaw03_GeomWinds.l0.eq_2 ..) (evPos hi (evPos h0 (evPos hi (evSome (refEq ..) ?_))))
    rw [w64' (n := i + 1) (by omega) (by omega)]
    have hlt : i.toNat < (pts l).length := by rw [pts_length]; omega
    refine evPos (by simp only [List.length_map, List.length_take]; omega) ?_
    have e : ((pts l).take i.toNat).map back ++ [(⟨(rd_T24 l i).f0, (rd_T24 l i).f1⟩ : S28)] = ((pts l).take (i + 1).toNat).map back := by
      have e4 : (i + 1).toNat = i.toNat + 1 := by omega
      rw [e4, List.take_succ_eq_append_getElem hlt, List.map_append]
      congr 1
      show _ = [back ((pts l)[i.toNat])]
      have e5 : (pts l)[i.toNat] = pt24 (rd_T24 l i) := by rw [rd_eq, List.getD_eq_getElem?_getD, List.getElem?_eq_getElem hlt]; rfl
      rw [e5]
      rfl
    simp only [e]
    exact ih (i + 1) (by omega) (by omega)
theorem GeomWinds : limnerlaw03_GeomWinds.Pure := by
  intro l sx sy hl hs
  refine Ev.rounds ?_
  unfold limnerlaw03_GeomWinds.f
  have aw : ∀ b : Bool, b = true → Ev (fun k => limnerlaw03_GeomWinds.j0 k l b sx sy) true := by
    intro b hb
    exact Ev.step (fun _ => limnerlaw03_GeomWinds.j0.eq_2 ..) (evPos hb (Ev.bind awakeEv (Ev.now _)))
  have hmax : (l.length : Int) ≤ 4611686018427387904 ∨ (l.length : Int) > 60 := by omega
  by_cases c : (l.length : Int) > 60
  · exact evPos c (aw _ rfl)
  · refine evNeg c (Ev.bind (inEv l (by omega)) ?_)
    by_cases c1 : (pts l).all inR = true
    · refine evPos c1 (Ev.bind (inEv _ (by simp)) ?_)
      by_cases c2 : (pts [(⟨sx, sy⟩ : S24)]).all inR = true
      · simp only [c2]
        refine Ev.step (fun _ => limnerlaw03_GeomWinds.j0.eq_2 ..) (evNeg (by simp) ?_)
        exact gwLoop l sx sy (all_in c2 ⟨sx, sy⟩ (by simp)) (all_in c1) (by omega) l.length 0 (by omega) (by omega)
      · exact aw _ (by simpa using c2)
    · exact evNeg c1 (aw _ rfl)
end Go.Proofs.Ytfhjndnempmcaaa.Pure
