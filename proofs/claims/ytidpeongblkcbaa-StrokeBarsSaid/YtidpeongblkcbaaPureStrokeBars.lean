/- StrokeBars' pure statement: any line has the bar that the reference tells, or is refused. Conditions: none. -/
import Derived.Test.YtidpeongblkcbaaXx11
import Derived.Test.YtidpeongblkcbaaXx12
import Derived.Test.YtidpeongblkcbaaXx6
import Derived.Test.YtidpeongblkcbaaXx7
import Derived.Test.YtidpeongblkcbaaPBar
namespace Go.Proofs.Ytidpeongblkcbaa.Pure
open Go.RowKit Go.Proofs.YtidpeongblkcbaaW.PrintWords Go.Proofs.Ytidpeongblkcbaa.X Go.Proofs.Ytidpeongblkcbaa.PNum Go.Proofs.Ytidpeongblkcbaa.PRoot Go.Proofs.Ytidpeongblkcbaa.PBar

theorem lawIn (x y : Int) : limnerlaw07_in.f x y = some (inB x y) := by
  unfold limnerlaw07_in.f
  rw [PBar.refIn, PBar.refIn]
  exact andB
theorem awakeEv : Ev (fun k => limnerlaw07_awake.f k) true := by
  have ho : okB 0 0 10 0 2 := by decide
  obtain ⟨L, s, t, u, v, ⟨h1, h2, h3⟩, ⟨es, et⟩, b1, b2, g1, _⟩ := stepsEv (ax := 0) (ay := 0) (bx := 10) (bY := 0) (h := 2) (by decide) (by decide) (by decide) (by decide) (by decide) (by decide) (by decide)
  have hL : L = 10 := rootUniq h1 (by decide) h2 h3 (by decide) (by decide)
  subst hL
  have e1 : s = 0 := by rw [es]; decide
  have e2 : t = 2 := by rw [et]; decide
  subst e1
  subst e2
  have hb := barEv ho g1 b1 b2
  have ha : (barL 0 0 10 0 0 2).all pIn = true := by decide
  rw [if_pos ha] at hb
  unfold limnerlaw07_awake.f
  exact evSome (rfl : limnerlaw07_at.f 0 0 = some (0, 0)) (evSome (rfl : limnerlaw07_at.f 10 0 = some (10, 0)) (Ev.bind hb (evPos rfl (evPos (by decide) (evPos (by decide) (evSome (rfl : limnerlaw07_at.f 0 (-2) = some (0, -2)) (evPos (by decide) (evPos (by decide) (evSome (rfl : limnerlaw07_at.f 10 2 = some (10, 2)) (evEq (Ev.now _) (by decide)))))))))))
theorem longEq {ax ay bx bY : Int} (ha : R31 ax ∧ R31 ay) (hb : R31 bx ∧ R31 bY) : limnerref07_Long.f ax ay bx bY = some (decide (¬ shortB ax ay bx bY)) := by
  obtain ⟨⟨x1, x2⟩, y1, y2⟩ := ha
  obtain ⟨⟨z1, z2⟩, w1, w2⟩ := hb
  unfold limnerref07_Long.f
  rw [w64' (n := bx - ax) (by omega) (by omega), w64' (n := bY - ay) (by omega) (by omega)]
  have yes : ¬ shortB ax ay bx bY → some true = some (decide (¬ shortB ax ay bx bY)) := fun h => by rw [decide_eq_true h]
  by_cases c1 : bx - ax > 536870912
  · rw [if_pos c1]; exact yes (by unfold shortB; omega)
  rw [if_neg c1]
  by_cases c2 : bx - ax < -536870912
  · rw [if_pos c2]; exact yes (by unfold shortB; omega)
  rw [if_neg c2]
  by_cases c3 : bY - ay > 536870912
  · rw [if_pos c3]; exact yes (by unfold shortB; omega)
  rw [if_neg c3]
  exact congrArg some (decide_eq_decide.2 (by unfold shortB; omega))
theorem StrokeBars : limnerlaw07_StrokeBars.Pure := by
  intro ax ay bx bY h _ _ _
  refine Ev.rounds ?_
  unfold limnerlaw07_StrokeBars.f
  have aw : Ev (fun k => (limnerlaw07_awake.f k).bind fun t => some t) true := Ev.bind awakeEv (Ev.now _)
  by_cases ho : okB ax ay bx bY h
  · have ho2 := ho
    obtain ⟨c1, c2, c3, c4⟩ := ho2
    have e : (ax == bx && (ay == bY)) = false := by
      rw [Bool.eq_false_iff]
      intro g
      rw [Bool.and_eq_true, beq_iff_eq, beq_iff_eq] at g
      exact c4 g
    have go : ∀ v : List Pt × Int, Ev (fun k => stroke_Bar.f k ax ay bx bY h) v → Ev (fun k => limnerlaw07_StrokeBars.j0 k h v.1 v.2 false ax ay bx bY) true →
        Ev (fun n => (stroke_Bar.f n ax ay bx bY h).bind fun bt243 => if h < 1 then limnerlaw07_StrokeBars.j0 n h bt243.1 bt243.2 true ax ay bx bY else if h > 32768 then limnerlaw07_StrokeBars.j0 n h bt243.1 bt243.2 true ax ay bx bY else (limnerlaw07_in.f ax ay).bind fun t247 => if t247 = true then (limnerlaw07_in.f bx bY).bind fun t248 => if t248 = true then limnerlaw07_StrokeBars.j0 n h bt243.1 bt243.2 (ax == bx && (ay == bY)) ax ay bx bY else limnerlaw07_StrokeBars.j0 n h bt243.1 bt243.2 true ax ay bx bY else limnerlaw07_StrokeBars.j0 n h bt243.1 bt243.2 true ax ay bx bY) true := by
      intro v hv hj
      rw [e]
      exact Ev.bind hv (evNeg (by omega) (evNeg (by omega) (evSome (lawIn ..) (evPos c2 (evSome (lawIn ..) (evPos c3 hj))))))
    by_cases hsh : shortB ax ay bx bY
    · obtain ⟨L, s, t, u, v, _, _, b1, b2, g1, g2⟩ := stepsEv (inE c2) (inE c3) c4 c1.1 c1.2 hsh.1 hsh.2
      have hb := barEv ho g1 b1 b2
      have hr := refBarEv ho g2 b1 b2
      have hin : Ev (fun k => limnerref07_In.f k ((barL ax ay bx bY s t).map conv)) ((barL ax ay bx bY s t).all pIn) := by
        unfold limnerref07_In.f
        refine evEq (refInLoop _ (by simp [barL]) 4 0 (by simp [barL]) (by decide)) ?_
        simp [barL, rIn, pIn, conv]
      refine go _ hb (Ev.step (fun _ => limnerlaw07_StrokeBars.j0.eq_2 ..) (evNeg (by simp) (evSome rfl (evSome rfl (evSome (longEq (inE c2) (inE c3)) (evNeg (by simpa using hsh) (evSome rfl (evSome rfl (Ev.bind hr (Ev.bind hin ?_))))))))))
      by_cases ha : (barL ax ay bx bY s t).all pIn = true
      · have hsame : Ev (fun k => limnerlaw07_same.f k (barL ax ay bx bY s t) ((barL ax ay bx bY s t).map conv)) true := by
          unfold limnerlaw07_same.f
          exact evPos (by simp [barL]) (sameLoop _ (by simp [barL]) 4 0 (by simp [barL]) (by decide))
        rw [if_pos ha]
        exact evPos ha (evPos rfl (Ev.bind hsame (evPos rfl aw)))
      · rw [if_neg ha]
        exact evNeg ha (evPos rfl (evPos rfl aw))
    · refine go _ (barLong ho hsh) (Ev.step (fun _ => limnerlaw07_StrokeBars.j0.eq_2 ..) (evNeg (by simp) (evSome rfl (evSome rfl (evSome (longEq (inE c2) (inE c3)) (evPos (by simpa using hsh) (evPos rfl (evPos rfl aw))))))))
  · refine Ev.bind (barBad ho) ?_
    have j : Ev (fun k => limnerlaw07_StrokeBars.j0 k h ([] : List Pt) 30 true ax ay bx bY) true := Ev.step (fun _ => limnerlaw07_StrokeBars.j0.eq_2 ..) (evPos rfl (evPos rfl (evPos rfl aw)))
    by_cases c1 : h < 1
    · exact evPos c1 j
    refine evNeg c1 ?_
    by_cases c1' : h > 32768
    · exact evPos c1' j
    refine evNeg c1' (evSome (lawIn ..) ?_)
    by_cases c2 : inB ax ay = true
    · refine evPos c2 (evSome (lawIn ..) ?_)
      by_cases c3 : inB bx bY = true
      · have c4 : ax = bx ∧ ay = bY := Decidable.byContradiction fun g => ho ⟨by omega, c2, c3, g⟩
        have e : (ax == bx && (ay == bY)) = true := by simp [c4.1, c4.2]
        rw [e]
        exact evPos c3 j
      · exact evNeg c3 j
    · exact evNeg c2 j
end Go.Proofs.Ytidpeongblkcbaa.Pure
