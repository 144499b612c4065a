/- AffineDets' pure statement: the area that a join turns a square into is that of both, of matrices of whole numbers. Conditions: none. -/
import Derived.Test.YtkneefkhggacmaaXx17
import Derived.Test.YtkneefkhggacmaaXx18
import Derived.Test.YtkneefkhggacmaaXx19
import Derived.Test.YtkneefkhggacmaaPThen
import Derived.Test.YtkneefkhggacmaaPMul
import Derived.Test.YtkneefkhggacmaaPShift
namespace Go.Proofs.Ytkneefkhggacmaa.Pure
open Go.RowKit Go.Proofs.YtkneefkhggacmaaW.PrintWords Go.Proofs.Ytkneefkhggacmaa.X Go.Proofs.Ytkneefkhggacmaa.PNum Go.Proofs.Ytkneefkhggacmaa.PAff Go.Proofs.Ytkneefkhggacmaa.PThen Go.Proofs.Ytkneefkhggacmaa.PMul Go.Proofs.Ytkneefkhggacmaa.PShift

def I64 (a : Int) : Prop := -9223372036854775808 ≤ a ∧ a ≤ 9223372036854775807
theorem detEq {a b c d e f : Int} (ha : I64 a) (hb : I64 b) (hc : I64 c) (hd : I64 d) :
    affine_Matrix_Det.f a b c d e f = some ((a * d - b * c) / 18446744073709551616, (a * d - b * c) % 18446744073709551616) := by
  have h1 := mul_bd ha.1 ha.2 hd.1 hd.2
  have h2 := mul_bd hb.1 hb.2 hc.1 hc.2
  unfold affine_Matrix_Det.f
  rw [wideMul a d ha.1 ha.2 hd.1 hd.2, wideMul b c hb.1 hb.2 hc.1 hc.2]
  simp only [Option.bind_some]
  rw [wideSub (by omega) (by omega)]
  rfl
theorem shr32 (D : Int) : wide_Num_Shr.f (4294967296 * D / 18446744073709551616) (4294967296 * D % 18446744073709551616) 32 = some (D / 18446744073709551616, D % 18446744073709551616) := by
  have e : (2 : Int) ^ (32 : Int).toNat = 4294967296 := by decide
  rw [wideShr (p := 4294967296 * D) (n := 32) (by decide) (by decide), e, Int.mul_ediv_cancel_left _ (by decide)]
theorem intEq {D : Int} (h : I64 D) : wide_Num_Int.f (D / 18446744073709551616) (D % 18446744073709551616) = some (D, true) := by
  have h1 := h.1
  have h2 := h.2
  rw [wideInt (by omega) (by omega), if_pos ⟨h1, h2⟩]
theorem rn65 (n : Int) : rn (65536 * n) = n := by unfold rn; omega
/-- The matrix of whole numbers, its determinant. -/
theorem sm {a x : Int} (h1 : -200 ≤ a) (h2 : a ≤ 200) (h3 : -200 ≤ x) (h4 : x ≤ 200) : -40000 ≤ a * x ∧ a * x ≤ 40000 := mulb (b := 200) (c := 200) h1 h2 h3 h4
theorem det_mul (a b c d a2 b2 c2 d2 : Int) : (a2 * a + c2 * b) * (b2 * c + d2 * d) - (b2 * a + d2 * b) * (a2 * c + c2 * d) = (a * d - b * c) * (a2 * d2 - b2 * c2) := by grind
theorem det65 (a b c d : Int) : 65536 * a * (65536 * d) - 65536 * b * (65536 * c) = 4294967296 * (a * d - b * c) := by grind
theorem rowj (a a2 b c2 : Int) : 65536 * a2 * (65536 * a) + 65536 * c2 * (65536 * b) = 65536 * (65536 * (a2 * a + c2 * b)) := by grind
theorem AffineDets : limnerlaw04_AffineDets.Pure := by
  intro a b c d a2 b2 c2 d2 _ _
  refine Ev.rounds ?_
  unfold limnerlaw04_AffineDets.f
  have st : ∀ i : Int, 0 ≤ i → i < 4 → (-200 ≤ rd ([a, b, c, d] : List Int) i → rd ([a, b, c, d] : List Int) i ≤ 200 → -200 ≤ rd ([a2, b2, c2, d2] : List Int) i → rd ([a2, b2, c2, d2] : List Int) i ≤ 200 →
      Ev (fun k => limnerlaw04_AffineDets.l0 k (i + 1) a b c d a2 b2 c2 d2) true) → Ev (fun k => limnerlaw04_AffineDets.l0 k i a b c d a2 b2 c2 d2) true := by
    intro i h0 h4 next
    refine Ev.step (fun _ => limnerlaw04_AffineDets.l0.eq_2 ..) (evPos h4 (evPos h0 ?_))
    by_cases g1 : rd ([a, b, c, d] : List Int) i < -200
    · exact evPos g1 (Ev.bind awakeEv (Ev.now _))
    refine evNeg g1 ?_
    by_cases g2 : rd ([a, b, c, d] : List Int) i > 200
    · exact evPos g2 (Ev.bind awakeEv (Ev.now _))
    refine evNeg g2 ?_
    by_cases g3 : rd ([a2, b2, c2, d2] : List Int) i < -200
    · exact evPos g3 (Ev.bind awakeEv (Ev.now _))
    refine evNeg g3 ?_
    by_cases g4 : rd ([a2, b2, c2, d2] : List Int) i > 200
    · exact evPos g4 (Ev.bind awakeEv (Ev.now _))
    refine evNeg g4 ?_
    rw [w64' (n := i + 1) (by omega) (by omega)]
    exact next (by omega) (by omega) (by omega) (by omega)
  refine st 0 (by decide) (by decide) fun (p1 : -200 ≤ a) (p2 : a ≤ 200) (p3 : -200 ≤ a2) (p4 : a2 ≤ 200) => ?_
  refine st 1 (by decide) (by decide) fun (q1 : -200 ≤ b) (q2 : b ≤ 200) (q3 : -200 ≤ b2) (q4 : b2 ≤ 200) => ?_
  refine st 2 (by decide) (by decide) fun (r1 : -200 ≤ c) (r2 : c ≤ 200) (r3 : -200 ≤ c2) (r4 : c2 ≤ 200) => ?_
  refine st 3 (by decide) (by decide) fun (s1 : -200 ≤ d) (s2 : d ≤ 200) (s3 : -200 ≤ d2) (s4 : d2 ≤ 200) => ?_
  refine Ev.step (fun _ => limnerlaw04_AffineDets.l0.eq_2 ..) (evNeg (by decide) ?_)
  have wm : ∀ z : Int, -200 ≤ z → z ≤ 200 → wrap64 (z * 65536) = 65536 * z := by intro z h1 h2; unfold wrap64; omega
  rw [wm a p1 p2, wm a2 p3 p4, wm b q1 q2, wm b2 q3 q4, wm c r1 r2, wm c2 r3 r4, wm d s1 s2, wm d2 s3 s4]
  have n1 := sm p1 p2 s1 s2
  have n2 := sm q1 q2 r1 r2
  have n3 := sm p3 p4 s3 s4
  have n4 := sm q3 q4 r3 r4
  have small : ∀ z : Int, -200 ≤ z → z ≤ 200 → I64 (65536 * z) := by intro z h1 h2; exact ⟨by omega, by omega⟩
  refine Ev.bind (thenEv ..) ?_
  generalize hv : thV _ _ _ _ _ _ _ _ _ _ _ _ = v
  by_cases k1 : v.2.2.2.2.2.2 = 0
  rotate_left
  · exact evNeg k1 (Ev.bind awakeEv (Ev.now _))
  refine evPos k1 ?_
  -- what the join is
  rw [← hv] at k1
  have ht : rightB (65536 * (a2 * a + c2 * b)) (65536 * (b2 * a + d2 * b)) (65536 * (a2 * c + c2 * d)) (65536 * (b2 * c + d2 * d)) 0 0 = true ∧
      v = (65536 * (a2 * a + c2 * b), 65536 * (b2 * a + d2 * b), 65536 * (a2 * c + c2 * d), 65536 * (b2 * c + d2 * d), 0, 0, 0) := by
    unfold thV at k1 hv
    split at k1
    · rename_i t1
      rw [if_pos t1] at hv
      split at k1
      · rename_i t2
        rw [if_pos t2] at hv
        obtain ⟨_, _, _, t3⟩ := apV_ok t2
        have z : ∀ n m : Int, rn (n * 0 + m * 0) + 0 = 0 := by intro n m; rw [Int.mul_zero, Int.mul_zero]; rfl
        rw [z, z] at t3
        rw [t3] at hv k1
        rw [rowj, rowj, rowj, rowj, rn65, rn65, rn65, rn65] at hv k1
        split at k1
        · rename_i t4
          rw [if_pos t4] at hv
          exact ⟨t4, hv.symm⟩
        · simp at k1
      · rename_i t2
        exact absurd k1 t2
    · simp at k1
  obtain ⟨hr, hv2⟩ := ht
  obtain ⟨e1, e2, e3, e4, _, _⟩ := rightE hr
  have i64 : ∀ z : Int, E24 z → I64 z := by intro z h; unfold E24 at h; exact ⟨by omega, by omega⟩
  rw [hv2]
  have m1 := mulb (a := a * d - b * c) (x := a2 * d2 - b2 * c2) (b := 80000) (c := 80000) (by omega) (by omega) (by omega) (by omega)
  have d1 := detEq (a := 65536 * a) (b := 65536 * b) (c := 65536 * c) (d := 65536 * d) (e := 0) (f := 0) (small a p1 p2) (small b q1 q2) (small c r1 r2) (small d s1 s2)
  have d2' := detEq (a := 65536 * a2) (b := 65536 * b2) (c := 65536 * c2) (d := 65536 * d2) (e := 0) (f := 0) (small a2 p3 p4) (small b2 q3 q4) (small c2 r3 r4) (small d2 s3 s4)
  have d3 := detEq (e := 0) (f := 0) (i64 _ e1) (i64 _ e2) (i64 _ e3) (i64 _ e4)
  rw [det65] at d1 d2' d3
  rw [det_mul] at d3
  refine evSome d1 (evSome (shr32 _) (evSome (intEq ⟨by omega, by omega⟩) (evSome d2' (evSome (shr32 _) (evSome (intEq ⟨by omega, by omega⟩) (evSome d3 (evSome (shr32 _) (evSome (wideMul _ _ (by omega) (by omega) (by omega) (by omega)) ?_))))))))
  refine evPos (by simp) (evSome d1 ?_)
  rw [w64' (n := a * d) (by omega) (by omega), w64' (n := b * c) (by omega) (by omega), w64' (n := a * d - b * c) (by omega) (by omega)]
  refine evSome (wideMul _ _ (by omega) (by omega) (by decide) (by decide)) (evPos ?_ (Ev.bind awakeEv (Ev.now _)))
  rw [Int.mul_comm (a * d - b * c)]
  simp
end Go.Proofs.Ytkneefkhggacmaa.Pure
