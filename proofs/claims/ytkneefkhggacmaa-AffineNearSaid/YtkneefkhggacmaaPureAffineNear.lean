/- AffineNear's pure statement: what two matrices make of a point one behind the other, and what their join makes of it, lie within six 256ths. Conditions: none. -/
import Derived.Test.YtkneefkhggacmaaXx14
import Derived.Test.YtkneefkhggacmaaXx15
import Derived.Test.YtkneefkhggacmaaPThen
namespace Go.Proofs.Ytkneefkhggacmaa.Pure
open Go.RowKit Go.Proofs.YtkneefkhggacmaaW.PrintWords Go.Proofs.Ytkneefkhggacmaa.X Go.Proofs.Ytkneefkhggacmaa.PNum Go.Proofs.Ytkneefkhggacmaa.PAff Go.Proofs.Ytkneefkhggacmaa.PThen

/-- The rounding, reckoned. -/
theorem near_core {mA mB mC mD mE mF oA oC oE px py : Int} (g1 : -131072 ≤ oA ∧ oA ≤ 131072) (g2 : -131072 ≤ oC ∧ oC ≤ 131072) (g3 : -32768 ≤ px ∧ px ≤ 32768) (g4 : -32768 ≤ py ∧ py ≤ 32768) :
    -6 ≤ (rn (oA * (rn (mA * px + mC * py) + mE) + oC * (rn (mB * px + mD * py) + mF)) + oE) - (rn (rn (oA * mA + oC * mB) * px + rn (oA * mC + oC * mD) * py) + (rn (oA * mE + oC * mF) + oE)) ∧
    (rn (oA * (rn (mA * px + mC * py) + mE) + oC * (rn (mB * px + mD * py) + mF)) + oE) - (rn (rn (oA * mA + oC * mB) * px + rn (oA * mC + oC * mD) * py) + (rn (oA * mE + oC * mF) + oE)) ≤ 6 := by
  obtain ⟨qx, dqx⟩ : ∃ z, z = rn (mA * px + mC * py) + mE := ⟨_, rfl⟩
  obtain ⟨qy, dqy⟩ : ∃ z, z = rn (mB * px + mD * py) + mF := ⟨_, rfl⟩
  rw [← dqx, ← dqy]
  obtain ⟨e1, h1⟩ : ∃ e, e = rn (mA * px + mC * py) * 65536 - (mA * px + mC * py) := ⟨_, rfl⟩
  obtain ⟨e2, h2⟩ : ∃ e, e = rn (mB * px + mD * py) * 65536 - (mB * px + mD * py) := ⟨_, rfl⟩
  obtain ⟨e3, h3⟩ : ∃ e, e = rn (oA * qx + oC * qy) * 65536 - (oA * qx + oC * qy) := ⟨_, rfl⟩
  obtain ⟨e4, h4⟩ : ∃ e, e = rn (rn (oA * mA + oC * mB) * px + rn (oA * mC + oC * mD) * py) * 65536 - (rn (oA * mA + oC * mB) * px + rn (oA * mC + oC * mD) * py) := ⟨_, rfl⟩
  obtain ⟨e5, h5⟩ : ∃ e, e = rn (oA * mA + oC * mB) * 65536 - (oA * mA + oC * mB) := ⟨_, rfl⟩
  obtain ⟨e6, h6⟩ : ∃ e, e = rn (oA * mC + oC * mD) * 65536 - (oA * mC + oC * mD) := ⟨_, rfl⟩
  obtain ⟨e7, h7⟩ : ∃ e, e = rn (oA * mE + oC * mF) * 65536 - (oA * mE + oC * mF) := ⟨_, rfl⟩
  have b1 : -32768 ≤ e1 ∧ e1 ≤ 32768 := by have := rn_bd (mA * px + mC * py); omega
  have b2 : -32768 ≤ e2 ∧ e2 ≤ 32768 := by have := rn_bd (mB * px + mD * py); omega
  have b3 : -32768 ≤ e3 ∧ e3 ≤ 32768 := by have := rn_bd (oA * qx + oC * qy); omega
  have b4 : -32768 ≤ e4 ∧ e4 ≤ 32768 := by have := rn_bd (rn (oA * mA + oC * mB) * px + rn (oA * mC + oC * mD) * py); omega
  have b5 : -32768 ≤ e5 ∧ e5 ≤ 32768 := by have := rn_bd (oA * mA + oC * mB); omega
  have b6 : -32768 ≤ e6 ∧ e6 ≤ 32768 := by have := rn_bd (oA * mC + oC * mD); omega
  have b7 : -32768 ≤ e7 ∧ e7 ≤ 32768 := by have := rn_bd (oA * mE + oC * mF); omega
  have p1 := mulb (a := oA) (x := e1) (b := 131072) (c := 32768) (by omega) (by omega) (by omega) (by omega)
  have p2 := mulb (a := oC) (x := e2) (b := 131072) (c := 32768) (by omega) (by omega) (by omega) (by omega)
  have p5 := mulb (a := e5) (x := px) (b := 32768) (c := 32768) (by omega) (by omega) (by omega) (by omega)
  have p6 := mulb (a := e6) (x := py) (b := 32768) (c := 32768) (by omega) (by omega) (by omega) (by omega)
  generalize rn (rn (oA * mA + oC * mB) * px + rn (oA * mC + oC * mD) * py) = z4 at *
  generalize rn (oA * qx + oC * qy) = z3 at *
  generalize rn (mA * px + mC * py) = z1 at *
  generalize rn (mB * px + mD * py) = z2 at *
  generalize rn (oA * mA + oC * mB) = z5 at *
  generalize rn (oA * mC + oC * mD) = z6 at *
  generalize rn (oA * mE + oC * mF) = z7 at *
  have key : 4294967296 * ((z3 + oE) - (z4 + (z7 + oE))) = oA * e1 + oC * e2 + 65536 * e3 - e5 * px - e6 * py - 65536 * e7 - 65536 * e4 := by
    rw [h1, h2, h3, h4, h5, h6, h7, dqx, dqy]
    grind
  generalize oA * e1 = y1 at *
  generalize oC * e2 = y2 at *
  generalize e5 * px = y5 at *
  generalize e6 * py = y6 at *
  omega
theorem nearEq {a b : Int} (h : -6 ≤ a - b ∧ a - b ≤ 6) : limnerlaw04_near.f a b = some true := by
  unfold limnerlaw04_near.f
  rw [w64' (n := a - b) (by omega) (by omega), w64' (n := b - a) (by omega) (by omega), if_pos (by omega), decide_eq_true (by omega)]
theorem AffineNear : limnerlaw04_AffineNear.Pure := by
  intro a b c d e f a2 b2 c2 d2 e2 f2 px py _ _ _
  refine Ev.rounds ?_
  unfold limnerlaw04_AffineNear.f
  refine Ev.bind (Ev.now _) ?_
  have main : (∀ n ∈ ([a, b, c, d, a2, b2, c2, d2] : List Int), -131072 ≤ n ∧ n ≤ 131072) → Ev (fun k => limnerlaw04_AffineNear.l0 k [a, b, c, d, a2, b2, c2, d2] 8 8 a b c d e f a2 b2 c2 d2 e2 f2 px py) true := by
    intro hall
    refine Ev.step (fun _ => limnerlaw04_AffineNear.l0.eq_2 ..) (evNeg (by omega) ?_)
    have aw : Ev (fun k => limnerlaw04_AffineNear.j1 k true a b c d e f a2 b2 c2 d2 e2 f2 px py) true := Ev.step (fun _ => limnerlaw04_AffineNear.j1.eq_2 ..) (evPos rfl (Ev.bind awakeEv (Ev.now _)))
    have aw2 : ∀ t1 t2 t3 t4 t5 t6 q1 q2, Ev (fun k => limnerlaw04_AffineNear.j2 k true a2 b2 c2 d2 e2 f2 px py t1 t2 t3 t4 t5 t6 q1 q2) true := fun _ _ _ _ _ _ _ _ => Ev.step (fun _ => limnerlaw04_AffineNear.j2.eq_2 ..) (evPos rfl (Ev.bind awakeEv (Ev.now _)))
    have aw3 : ∀ q1 q2 q3 q4, Ev (fun k => limnerlaw04_AffineNear.j3 k true q1 q2 q3 q4) true := fun _ _ _ _ => Ev.step (fun _ => limnerlaw04_AffineNear.j3.eq_2 ..) (evPos rfl (Ev.bind awakeEv (Ev.now _)))
    by_cases c1 : px < -32768
    · exact evPos c1 aw
    refine evNeg c1 ?_
    by_cases c2' : px > 32768
    · exact evPos c2' aw
    refine evNeg c2' ?_
    by_cases c3 : py < -32768
    · exact evPos c3 aw
    refine evNeg c3 ?_
    by_cases c4 : py > 32768
    · rw [decide_eq_true c4]
      exact aw
    rw [decide_eq_false c4]
    refine Ev.step (fun _ => limnerlaw04_AffineNear.j1.eq_2 ..) (evNeg (by simp) (Ev.bind (thenEv ..) (Ev.bind (applyEv ..) ?_)))
    by_cases k1 : (thV a b c d e f a2 b2 c2 d2 e2 f2).2.2.2.2.2.2 = 0
    rotate_left
    · exact evNeg k1 (aw2 ..)
    refine evPos k1 ?_
    by_cases k2 : (apV a b c d e f px py).2.2 = 0
    rotate_left
    · have : ((apV a b c d e f px py).2.2 != 0) = true := by simpa using k2
      rw [this]
      exact aw2 ..
    have kb : ((apV a b c d e f px py).2.2 != 0) = false := by simpa using k2
    rw [kb]
    refine Ev.step (fun _ => limnerlaw04_AffineNear.j2.eq_2 ..) (evNeg (by simp) (Ev.bind (applyEv ..) (Ev.bind (applyEv ..) ?_)))
    -- what the join is
    have ht : ∃ h : (apV a2 b2 c2 d2 e2 f2 e f).2.2 = 0, thV a b c d e f a2 b2 c2 d2 e2 f2 = (rn (a2 * a + c2 * b), rn (b2 * a + d2 * b), rn (a2 * c + c2 * d), rn (b2 * c + d2 * d), (apV a2 b2 c2 d2 e2 f2 e f).1, (apV a2 b2 c2 d2 e2 f2 e f).2.1, 0) := by
      unfold thV at k1 ⊢
      split at k1
      · rename_i r1
        split at k1
        · rename_i r2
          split at k1
          · rename_i r3
            exact ⟨r2, by rw [if_pos r1, if_pos r2, if_pos r3]⟩
          · simp at k1
        · rename_i r2
          exact absurd k1 r2
      · simp at k1
    obtain ⟨hx, ht⟩ := ht
    obtain ⟨_, _, _, hv⟩ := apV_ok hx
    obtain ⟨_, _, _, hq⟩ := apV_ok k2
    rw [hv] at ht
    rw [ht, hq]
    generalize hu : apV a2 b2 c2 d2 e2 f2 _ _ = u
    generalize hw : apV _ _ _ _ _ _ px py = v
    by_cases k3 : u.2.2 = 0
    rotate_left
    · exact evNeg k3 (aw3 ..)
    refine evPos k3 ?_
    by_cases k4 : v.2.2 = 0
    rotate_left
    · have : (v.2.2 != 0) = true := by simpa using k4
      rw [this]
      exact aw3 ..
    have kb2 : (v.2.2 != 0) = false := by simpa using k4
    rw [kb2]
    rw [← hu] at k3
    rw [← hw] at k4
    obtain ⟨_, _, _, hu2⟩ := apV_ok k3
    obtain ⟨_, _, _, hw2⟩ := apV_ok k4
    rw [hu] at hu2
    rw [hw] at hw2
    rw [hu2, hw2]
    have ga := hall a2 (by simp)
    have gb := hall b2 (by simp)
    have gc := hall c2 (by simp)
    have gd := hall d2 (by simp)
    refine Ev.step (fun _ => limnerlaw04_AffineNear.j3.eq_2 ..) (evNeg (by simp) (evSome (nearEq ?_) (evPos rfl (evSome (nearEq ?_) (evPos rfl (Ev.bind awakeEv (Ev.now _)))))))
    · exact near_core ga gc (by omega) (by omega)
    · exact near_core gb gd (by omega) (by omega)
  have loop : ∀ (n : Nat) (i : Int), i + n = 8 → 0 ≤ i → (∀ q ∈ ([a, b, c, d, a2, b2, c2, d2] : List Int).take i.toNat, -131072 ≤ q ∧ q ≤ 131072) → Ev (fun k => limnerlaw04_AffineNear.l0 k [a, b, c, d, a2, b2, c2, d2] 8 i a b c d e f a2 b2 c2 d2 e2 f2 px py) true := by
    intro n
    induction n with
    | zero =>
      intro i h1 h0 h
      have : i = 8 := by omega
      subst this
      exact main (by simpa using h)
    | succ n ih =>
      intro i h1 h0 h
      refine Ev.step (fun _ => limnerlaw04_AffineNear.l0.eq_2 ..) (evPos (by omega) (evPos h0 (evPos (by simp; omega) ?_)))
      by_cases c1 : rd [a, b, c, d, a2, b2, c2, d2] i < -131072
      · exact evPos c1 (Ev.bind awakeEv (Ev.now _))
      refine evNeg c1 ?_
      by_cases c2' : rd [a, b, c, d, a2, b2, c2, d2] i > 131072
      · exact evPos c2' (Ev.bind awakeEv (Ev.now _))
      refine evNeg c2' ?_
      rw [w64' (n := i + 1) (by omega) (by omega)]
      refine ih (i + 1) (by omega) (by omega) ?_
      have e4 : (i + 1).toNat = i.toNat + 1 := by omega
      have hl : i.toNat < ([a, b, c, d, a2, b2, c2, d2] : List Int).length := by simp; omega
      rw [e4, List.take_succ_eq_append_getElem hl]
      intro q hq
      rcases List.mem_append.1 hq with hq | hq
      · exact h q hq
      · rw [List.mem_singleton.1 hq]
        have er : rd [a, b, c, d, a2, b2, c2, d2] i = ([a, b, c, d, a2, b2, c2, d2] : List Int)[i.toNat] := by
          unfold rd
          rw [List.getD_eq_getElem?_getD, List.getElem?_eq_getElem hl]
          rfl
        rw [er] at c1 c2'
        omega
  exact loop 8 0 (by omega) (by omega) (by simp)
end Go.Proofs.Ytkneefkhggacmaa.Pure
