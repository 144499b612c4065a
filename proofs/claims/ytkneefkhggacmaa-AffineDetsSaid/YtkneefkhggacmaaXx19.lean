/- Functions of this part, each as a plain Lean function, and a proof that the machine comes to just what it says; written by a program of this session (xprint.py, over the kit's print). Conditions: those that each theorem names. -/
import Derived.Test.YtkneefkhggacmaaXx0
import Derived.Test.YtkneefkhggacmaaXx4
import Derived.Test.YtkneefkhggacmaaXx8
import Derived.Test.YtkneefkhggacmaaXx10
import Derived.Test.YtkneefkhggacmaaXx12
import Derived.Test.YtkneefkhggacmaaXx17
import Derived.Test.YtkneefkhggacmaaXx18
namespace Go.Proofs.Ytkneefkhggacmaa.X
open Go.Proofs.Ytkneefkhggacmaa
open Go.RowKit Go.Proofs.YtkneefkhggacmaaW.PrintWords Go.Proofs.YtkneefkhggacmaaW.PrintLast Go.Proofs.YtkneefkhggacmaaW.PrintMore
attribute [local go_sem] max2_int min2_int max_two min_two max_three min_three max_four min_four   -- for this text's walks alone
set_option linter.unusedVariables false
set_option linter.unusedSimpArgs false

attribute [local go_sem high] eqA65
/-! ### limnerlaw04_AffineDets: function 8 -/
def limnerlaw04_AffineDets.l0 : Nat → Int → Int → Int → Int → Int → Int → Int → Int → Int → Option (Bool)
  | 0, _, _, _, _, _, _, _, _, _ => none
  | k + 1, x14, x366000, x366001, x366002, x366003, x367000, x367001, x367002, x367003 => if x14 < 4 then (if 0 ≤ x14 then (if (rd ([x366000, x366001, x366002, x366003] : List Int) x14) < (-200) then ((limnerlaw04_awake.f k).bind fun t369 => (some t369)) else (if (rd ([x366000, x366001, x366002, x366003] : List Int) x14) > 200 then ((limnerlaw04_awake.f k).bind fun t370 => (some t370)) else (if (rd ([x367000, x367001, x367002, x367003] : List Int) x14) < (-200) then ((limnerlaw04_awake.f k).bind fun t371 => (some t371)) else (if (rd ([x367000, x367001, x367002, x367003] : List Int) x14) > 200 then ((limnerlaw04_awake.f k).bind fun t372 => (some t372)) else (limnerlaw04_AffineDets.l0 k (wrap64 (x14 + 1)) x366000 x366001 x366002 x366003 x367000 x367001 x367002 x367003))))) else (none)) else ((affine_Matrix_Then.f k (wrap64 (x366000 * 65536)) (wrap64 (x366001 * 65536)) (wrap64 (x366002 * 65536)) (wrap64 (x366003 * 65536)) 0 0 (wrap64 (x367000 * 65536)) (wrap64 (x367001 * 65536)) (wrap64 (x367002 * 65536)) (wrap64 (x367003 * 65536)) 0 0).bind fun bt373 => (if bt373.2.2.2.2.2.2 = 0 then ((affine_Matrix_Det.f (wrap64 (x366000 * 65536)) (wrap64 (x366001 * 65536)) (wrap64 (x366002 * 65536)) (wrap64 (x366003 * 65536)) 0 0).bind fun bt382 => ((wide_Num_Shr.f bt382.1 bt382.2 32).bind fun bt384 => ((wide_Num_Int.f bt384.1 bt384.2).bind fun bt386 => ((affine_Matrix_Det.f (wrap64 (x367000 * 65536)) (wrap64 (x367001 * 65536)) (wrap64 (x367002 * 65536)) (wrap64 (x367003 * 65536)) 0 0).bind fun bt388 => ((wide_Num_Shr.f bt388.1 bt388.2 32).bind fun bt390 => ((wide_Num_Int.f bt390.1 bt390.2).bind fun bt392 => ((affine_Matrix_Det.f bt373.1 bt373.2.1 bt373.2.2.1 bt373.2.2.2.1 bt373.2.2.2.2.1 bt373.2.2.2.2.2.1).bind fun bt394 => ((wide_Num_Shr.f bt394.1 bt394.2 32).bind fun bt396 => ((wide_Mul.f bt386.1 bt392.1).bind fun bt398 => (if (bt396.1 == bt398.1 && (bt396.2 == bt398.2)) = true then ((affine_Matrix_Det.f (wrap64 (x366000 * 65536)) (wrap64 (x366001 * 65536)) (wrap64 (x366002 * 65536)) (wrap64 (x366003 * 65536)) 0 0).bind fun bt400 => ((wide_Mul.f (wrap64 ((wrap64 (x366000 * x366003)) - (wrap64 (x366001 * x366002)))) 4294967296).bind fun bt402 => (if (bt400.1 == bt402.1 && (bt400.2 == bt402.2)) = true then ((limnerlaw04_awake.f k).bind fun t404 => (some t404)) else (none)))) else (none))))))))))) else ((limnerlaw04_awake.f k).bind fun t381 => (some t381))))
def limnerlaw04_AffineDets.f (k : Nat) (a0_0 : Int) (a0_1 : Int) (a0_2 : Int) (a0_3 : Int) (a1_0 : Int) (a1_1 : Int) (a1_2 : Int) (a1_3 : Int) : Option (Bool) := limnerlaw04_AffineDets.l0 k 0 a0_0 a0_1 a0_2 a0_3 a1_0 a1_1 a1_2 a1_3
theorem limnerlaw04_AffineDets.mono_l : ∀ k, (∀ y0 y1 y2 y3 y4 y5 y6 y7 y8, LeO (limnerlaw04_AffineDets.l0 k y0 y1 y2 y3 y4 y5 y6 y7 y8) (limnerlaw04_AffineDets.l0 (k + 1) y0 y1 y2 y3 y4 y5 y6 y7 y8))
  | 0 => fun _ _ _ _ _ _ _ _ _ r h => by simp [limnerlaw04_AffineDets.l0] at h
  | k + 1 => by
    have ih0 := limnerlaw04_AffineDets.mono_l k
    · intro y0 y1 y2 y3 y4 y5 y6 y7 y8
      unfold limnerlaw04_AffineDets.l0
      repeat' first
      | (with_reducible exact ih0 _ _ _ _ _ _ _ _ _)
      | (with_reducible exact affine_Matrix_Then.mono _ _ _ _ _ _ _ _ _ _ _ _ _)
      | (with_reducible exact limnerlaw04_awake.mono _)
      | (with_reducible exact LeO.refl _)
      | (with_reducible exact LeO.none _)
      | (with_reducible refine LeO.ite ?_ ?_)
      | (with_reducible refine LeO.bind ?_ (fun _ => ?_))
      | exact ih0 _ _ _ _ _ _ _ _ _
      | exact affine_Matrix_Then.mono _ _ _ _ _ _ _ _ _ _ _ _ _
      | exact limnerlaw04_awake.mono _
      | exact LeO.none _
      | refine LeO.ite ?_ ?_
      | refine LeO.bind ?_ (fun _ => ?_)
theorem limnerlaw04_AffineDets.mono : ∀ a0 a1 a2 a3 a4 a5 a6 a7 k, LeO (limnerlaw04_AffineDets.f k a0 a1 a2 a3 a4 a5 a6 a7) (limnerlaw04_AffineDets.f (k + 1) a0 a1 a2 a3 a4 a5 a6 a7) := by
  intro a0 a1 a2 a3 a4 a5 a6 a7 k
  have ih0 := limnerlaw04_AffineDets.mono_l k
  unfold limnerlaw04_AffineDets.f
  repeat' first
      | (with_reducible exact ih0 _ _ _ _ _ _ _ _ _)
      | (with_reducible exact affine_Matrix_Then.mono _ _ _ _ _ _ _ _ _ _ _ _ _)
      | (with_reducible exact limnerlaw04_awake.mono _)
      | (with_reducible exact LeO.refl _)
      | (with_reducible exact LeO.none _)
      | (with_reducible refine LeO.ite ?_ ?_)
      | (with_reducible refine LeO.bind ?_ (fun _ => ?_))
      | exact ih0 _ _ _ _ _ _ _ _ _
      | exact affine_Matrix_Then.mono _ _ _ _ _ _ _ _ _ _ _ _ _
      | exact limnerlaw04_awake.mono _
      | exact LeO.none _
      | refine LeO.ite ?_ ?_
      | refine LeO.bind ?_ (fun _ => ?_)
def limnerlaw04_AffineDets.T15 : Bool × List (List Nat × List Nat) := (true, [([], []), ([0], [0]), ([1, 1], [1]), ([], []), ([], []), ([3, 4, 2], [3, 4]), ([2, 5], [2, 5]), ([6, 5], [6]), ([7], [7]), ([8, 7, 7], [7, 8]), ([7], [7]), ([10, 7], [7, 10]), ([7], [7]), ([12, 7], [7, 12]), ([11, 13, 7], [7, 11, 13]), ([7], [7]), ([15, 7], [7, 15]), ([7], [7]), ([17, 7], [7, 17]), ([16, 18, 7], [7, 16, 18]), ([14, 19, 7], [7, 14, 19]), ([20, 9, 7], [7, 20]), ([9, 21, 7], [7, 9, 21]), ([7, 22], [7, 22]), ([23, 21], [23]), ([24, 24], [24]), ([24, 25], [24, 25]), ([26, 25, 0, 1, 2, 3, 4, 5, 6, 7, 8, 9, 10, 11, 12, 13, 14, 15, 16, 17, 18, 19, 20, 21, 22, 23, 24, 25, 26], [26])])
def limnerlaw04_AffineDets.B15 : List Nat := [0, 1, 3, 0, 0, 31, 63, 127, 255, 511, 255, 1279, 255, 4351, 15615, 255, 33023, 255, 131327, 491775, 1047807, 2097151, 4194303, 8388607, 16777215, 33554431, 67108863, 134217727]
theorem limnerlaw04_AffineDets.tab15 : rtab .any (opsOf Try.f8 15) = limnerlaw04_AffineDets.T15 := by kernel_rfl
theorem limnerlaw04_AffineDets.bits15 : waitsOk limnerlaw04_AffineDets.T15.2 limnerlaw04_AffineDets.B15 = true := by kernel_rfl
set_option maxHeartbeats 8000000 in
set_option maxRecDepth 100000 in
theorem limnerlaw04_AffineDets.calls (k : Nat) (a0_0 : Int) (a0_1 : Int) (a0_2 : Int) (a0_3 : Int) (a1_0 : Int) (a1_1 : Int) (a1_2 : Int) (a1_3 : Int) (r : Bool) (w : World) (h : limnerlaw04_AffineDets.f k a0_0 a0_1 a0_2 a0_3 a1_0 a1_1 a1_2 a1_3 = some r) :
    Calls Try.prog 8 #[.agg #[.int .i64 a0_0, .int .i64 a0_1, .int .i64 a0_2, .int .i64 a0_3], .agg #[.int .i64 a1_0, .int .i64 a1_1, .int .i64 a1_2, .int .i64 a1_3]] w fun e w' => e = .returned (.bool r) ∧ Below w.heap.size w w' := by
  have hu60 := Try.underlying60
  have hu23 := Try.underlying23
  have HB := Aside0.mk (Below.refl w.heap.size w)
  have H : (limnerlaw04_AffineDets.l0 k 0 a0_0 a0_1 a0_2 a0_3 a1_0 a1_1 a1_2 a1_3) = some r := h
  clear h
  have H' := Aside0.mk H
  clear H
  go_enter Try.func8, Try.ntmps8
  go_wp2_with (first | ((with_reducible refine gate_dst (N := 2) rfl ?_); refine box_event ?hg (N := 2) ?hd (cs := #[.int .i64 a0_0, .int .i64 a0_1, .int .i64 a0_2, .int .i64 a0_3]) (t := 60) ?hr ?_; (case hd => rfl); (case hg => rfl); (case hr => first | (go_simp; done) | (go_simp; rfl)); intro gb365 hg w3 hbox hb; have n0_ := Aside0.mk (below_step (by repeat (first | (with_reducible first | exact HB.out | apply below_alloc | apply pw_below_drewN | apply below_drew1) | exact HB.out)) hb); have n1_ := Aside0.mk (hbox); have n2_ := Aside0.mk ((by rw [hg]; exact (below_size (by repeat (first | (with_reducible first | exact HB.out | apply below_alloc | apply pw_below_drewN | apply below_drew1) | exact HB.out))) : w.heap.size ≤ gb365)); have n3_ := Aside0.mk ((by rw [hg]; exact (below_size (by repeat (first | (with_reducible first | exact HB.out | apply below_alloc | apply pw_below_drewN | apply below_drew1) | exact HB.out))) : w.heap.size ≤ gb365)); clear HB; have HB := n0_; have BK365 := n1_; have GW365 := n2_; have GE365 := n3_; clear n0_ n1_ n2_ n3_; clear hb hbox hg) | ((with_reducible refine gate_dst (N := 3) rfl ?_); refine box_event ?hg (N := 3) ?hd (cs := #[.int .i64 a1_0, .int .i64 a1_1, .int .i64 a1_2, .int .i64 a1_3]) (t := 60) ?hr ?_; (case hd => rfl); (case hg => rfl); (case hr => first | (go_simp; done) | (go_simp; rfl)); intro gb366 hg w4 hbox hb; have n0_ := Aside0.mk (blk_below (g := gb365) (o := .cells #[.int .i64 a0_0, .int .i64 a0_1, .int .i64 a0_2, .int .i64 a0_3] 60 (0, 0)) (by (with_reducible repeat (first | refine blk_drewN ?_ _ | refine blk_drew ?_ | refine blk_alloc ?_ _)); exact BK365.out) hb); have n1_ := Aside0.mk (below_step (by repeat (first | (with_reducible first | exact HB.out | apply below_alloc | apply pw_below_drewN | apply below_drew1 | refine below_set ?_ GE365.out) | exact HB.out)) hb); have n2_ := Aside0.mk (hbox); have n3_ := Aside0.mk ((by rw [hg]; exact (below_size (by repeat (first | (with_reducible first | exact HB.out | apply below_alloc | apply pw_below_drewN | apply below_drew1 | refine below_set ?_ GE365.out) | exact HB.out))) : w.heap.size ≤ gb366)); have n4_ := Aside0.mk ((by rw [hg]; exact (below_size (by repeat (first | (with_reducible first | exact HB.out | apply below_alloc | apply pw_below_drewN | apply below_drew1 | refine below_set ?_ GE365.out) | exact HB.out))) : w.heap.size ≤ gb366)); have n5_ := Aside0.mk ((by rw [hg]; exact Nat.ne_of_lt (blk_lt (g := gb365) (o := .cells #[.int .i64 a0_0, .int .i64 a0_1, .int .i64 a0_2, .int .i64 a0_3] 60 (0, 0)) (by (with_reducible repeat (first | refine blk_drewN ?_ _ | refine blk_drew ?_ | refine blk_alloc ?_ _)); exact BK365.out)) : gb365 ≠ gb366)); have n6_ := Aside0.mk ((by rw [hg]; exact Nat.ne_of_gt (blk_lt (g := gb365) (o := .cells #[.int .i64 a0_0, .int .i64 a0_1, .int .i64 a0_2, .int .i64 a0_3] 60 (0, 0)) (by (with_reducible repeat (first | refine blk_drewN ?_ _ | refine blk_drew ?_ | refine blk_alloc ?_ _)); exact BK365.out)) : gb366 ≠ gb365)); clear BK365; clear HB; have BK365 := n0_; have HB := n1_; have BK366 := n2_; have GW366 := n3_; have GE366 := n4_; have NB365_366 := n5_; have NB366_365 := n6_; clear n0_ n1_ n2_ n3_ n4_ n5_ n6_; clear hb hbox hg) | ((with_reducible refine gate_dst (N := 5) rfl ?_); refine box_event ?hg (N := 5) ?hd (cs := #[.int .i64 0, .int .i64 0, .int .i64 0, .int .i64 0, .int .i64 0, .int .i64 0]) (t := 23) ?hr ?_; (case hd => rfl); (case hg => rfl); (case hr => first | (go_simp; done) | (go_simp; rfl)); intro gb367 hg w5 hbox hb; have n0_ := Aside0.mk (blk_below (g := gb365) (o := .cells #[.int .i64 a0_0, .int .i64 a0_1, .int .i64 a0_2, .int .i64 a0_3] 60 (0, 0)) (by (with_reducible repeat (first | refine blk_drewN ?_ _ | refine blk_drew ?_ | refine blk_alloc ?_ _)); exact BK365.out) hb); have n1_ := Aside0.mk (blk_below (g := gb366) (o := .cells #[.int .i64 a1_0, .int .i64 a1_1, .int .i64 a1_2, .int .i64 a1_3] 60 (0, 0)) (by (with_reducible repeat (first | refine blk_drewN ?_ _ | refine blk_drew ?_ | refine blk_alloc ?_ _)); exact BK366.out) hb); have n2_ := Aside0.mk (below_step (by repeat (first | (with_reducible first | exact HB.out | apply below_alloc | apply pw_below_drewN | apply below_drew1 | refine below_set ?_ GE365.out | refine below_set ?_ GE366.out) | exact HB.out)) hb); have n3_ := Aside0.mk (hbox); have n4_ := Aside0.mk ((by rw [hg]; exact (below_size (by repeat (first | (with_reducible first | exact HB.out | apply below_alloc | apply pw_below_drewN | apply below_drew1 | refine below_set ?_ GE365.out | refine below_set ?_ GE366.out) | exact HB.out))) : w.heap.size ≤ gb367)); have n5_ := Aside0.mk ((by rw [hg]; exact (below_size (by repeat (first | (with_reducible first | exact HB.out | apply below_alloc | apply pw_below_drewN | apply below_drew1 | refine below_set ?_ GE365.out | refine below_set ?_ GE366.out) | exact HB.out))) : w.heap.size ≤ gb367)); have n6_ := Aside0.mk ((by rw [hg]; exact Nat.ne_of_lt (blk_lt (g := gb365) (o := .cells #[.int .i64 a0_0, .int .i64 a0_1, .int .i64 a0_2, .int .i64 a0_3] 60 (0, 0)) (by (with_reducible repeat (first | refine blk_drewN ?_ _ | refine blk_drew ?_ | refine blk_alloc ?_ _)); exact BK365.out)) : gb365 ≠ gb367)); have n7_ := Aside0.mk ((by rw [hg]; exact Nat.ne_of_gt (blk_lt (g := gb365) (o := .cells #[.int .i64 a0_0, .int .i64 a0_1, .int .i64 a0_2, .int .i64 a0_3] 60 (0, 0)) (by (with_reducible repeat (first | refine blk_drewN ?_ _ | refine blk_drew ?_ | refine blk_alloc ?_ _)); exact BK365.out)) : gb367 ≠ gb365)); have n8_ := Aside0.mk ((by rw [hg]; exact Nat.ne_of_lt (blk_lt (g := gb366) (o := .cells #[.int .i64 a1_0, .int .i64 a1_1, .int .i64 a1_2, .int .i64 a1_3] 60 (0, 0)) (by (with_reducible repeat (first | refine blk_drewN ?_ _ | refine blk_drew ?_ | refine blk_alloc ?_ _)); exact BK366.out)) : gb366 ≠ gb367)); have n9_ := Aside0.mk ((by rw [hg]; exact Nat.ne_of_gt (blk_lt (g := gb366) (o := .cells #[.int .i64 a1_0, .int .i64 a1_1, .int .i64 a1_2, .int .i64 a1_3] 60 (0, 0)) (by (with_reducible repeat (first | refine blk_drewN ?_ _ | refine blk_drew ?_ | refine blk_alloc ?_ _)); exact BK366.out)) : gb367 ≠ gb366)); clear BK365; clear BK366; clear HB; have BK365 := n0_; have BK366 := n1_; have HB := n2_; have BK367 := n3_; have GW367 := n4_; have GE367 := n5_; have NB365_367 := n6_; have NB367_365 := n7_; have NB366_367 := n8_; have NB367_366 := n9_; clear n0_ n1_ n2_ n3_ n4_ n5_ n6_ n7_ n8_ n9_; clear hb hbox hg) | ((with_reducible refine gate_dst (N := 6) rfl ?_); refine box_event ?hg (N := 6) ?hd (cs := #[.int .i64 0, .int .i64 0, .int .i64 0, .int .i64 0, .int .i64 0, .int .i64 0]) (t := 23) ?hr ?_; (case hd => rfl); (case hg => rfl); (case hr => first | (go_simp; done) | (go_simp; rfl)); intro gb368 hg w6 hbox hb; have n0_ := Aside0.mk (blk_below (g := gb365) (o := .cells #[.int .i64 a0_0, .int .i64 a0_1, .int .i64 a0_2, .int .i64 a0_3] 60 (0, 0)) (by (with_reducible repeat (first | refine blk_drewN ?_ _ | refine blk_drew ?_ | refine blk_alloc ?_ _)); exact BK365.out) hb); have n1_ := Aside0.mk (blk_below (g := gb366) (o := .cells #[.int .i64 a1_0, .int .i64 a1_1, .int .i64 a1_2, .int .i64 a1_3] 60 (0, 0)) (by (with_reducible repeat (first | refine blk_drewN ?_ _ | refine blk_drew ?_ | refine blk_alloc ?_ _)); exact BK366.out) hb); have n2_ := Aside0.mk (blk_below (g := gb367) (o := .cells #[.int .i64 0, .int .i64 0, .int .i64 0, .int .i64 0, .int .i64 0, .int .i64 0] 23 (0, 0)) (by (with_reducible repeat (first | refine blk_drewN ?_ _ | refine blk_drew ?_ | refine blk_alloc ?_ _)); exact BK367.out) hb); have n3_ := Aside0.mk (below_step (by repeat (first | (with_reducible first | exact HB.out | apply below_alloc | apply pw_below_drewN | apply below_drew1 | refine below_set ?_ GE365.out | refine below_set ?_ GE366.out | refine below_set ?_ GE367.out) | exact HB.out)) hb); have n4_ := Aside0.mk (hbox); have n5_ := Aside0.mk ((by rw [hg]; exact (below_size (by repeat (first | (with_reducible first | exact HB.out | apply below_alloc | apply pw_below_drewN | apply below_drew1 | refine below_set ?_ GE365.out | refine below_set ?_ GE366.out | refine below_set ?_ GE367.out) | exact HB.out))) : w.heap.size ≤ gb368)); have n6_ := Aside0.mk ((by rw [hg]; exact (below_size (by repeat (first | (with_reducible first | exact HB.out | apply below_alloc | apply pw_below_drewN | apply below_drew1 | refine below_set ?_ GE365.out | refine below_set ?_ GE366.out | refine below_set ?_ GE367.out) | exact HB.out))) : w.heap.size ≤ gb368)); have n7_ := Aside0.mk ((by rw [hg]; exact Nat.ne_of_lt (blk_lt (g := gb365) (o := .cells #[.int .i64 a0_0, .int .i64 a0_1, .int .i64 a0_2, .int .i64 a0_3] 60 (0, 0)) (by (with_reducible repeat (first | refine blk_drewN ?_ _ | refine blk_drew ?_ | refine blk_alloc ?_ _)); exact BK365.out)) : gb365 ≠ gb368)); have n8_ := Aside0.mk ((by rw [hg]; exact Nat.ne_of_gt (blk_lt (g := gb365) (o := .cells #[.int .i64 a0_0, .int .i64 a0_1, .int .i64 a0_2, .int .i64 a0_3] 60 (0, 0)) (by (with_reducible repeat (first | refine blk_drewN ?_ _ | refine blk_drew ?_ | refine blk_alloc ?_ _)); exact BK365.out)) : gb368 ≠ gb365)); have n9_ := Aside0.mk ((by rw [hg]; exact Nat.ne_of_lt (blk_lt (g := gb366) (o := .cells #[.int .i64 a1_0, .int .i64 a1_1, .int .i64 a1_2, .int .i64 a1_3] 60 (0, 0)) (by (with_reducible repeat (first | refine blk_drewN ?_ _ | refine blk_drew ?_ | refine blk_alloc ?_ _)); exact BK366.out)) : gb366 ≠ gb368)); have n10_ := Aside0.mk ((by rw [hg]; exact Nat.ne_of_gt (blk_lt (g := gb366) (o := .cells #[.int .i64 a1_0, .int .i64 a1_1, .int .i64 a1_2, .int .i64 a1_3] 60 (0, 0)) (by (with_reducible repeat (first | refine blk_drewN ?_ _ | refine blk_drew ?_ | refine blk_alloc ?_ _)); exact BK366.out)) : gb368 ≠ gb366)); have n11_ := Aside0.mk ((by rw [hg]; exact Nat.ne_of_lt (blk_lt (g := gb367) (o := .cells #[.int .i64 0, .int .i64 0, .int .i64 0, .int .i64 0, .int .i64 0, .int .i64 0] 23 (0, 0)) (by (with_reducible repeat (first | refine blk_drewN ?_ _ | refine blk_drew ?_ | refine blk_alloc ?_ _)); exact BK367.out)) : gb367 ≠ gb368)); have n12_ := Aside0.mk ((by rw [hg]; exact Nat.ne_of_gt (blk_lt (g := gb367) (o := .cells #[.int .i64 0, .int .i64 0, .int .i64 0, .int .i64 0, .int .i64 0, .int .i64 0] 23 (0, 0)) (by (with_reducible repeat (first | refine blk_drewN ?_ _ | refine blk_drew ?_ | refine blk_alloc ?_ _)); exact BK367.out)) : gb368 ≠ gb367)); clear BK365; clear BK366; clear BK367; clear HB; have BK365 := n0_; have BK366 := n1_; have BK367 := n2_; have HB := n3_; have BK368 := n4_; have GW368 := n5_; have GE368 := n6_; have NB365_368 := n7_; have NB368_365 := n8_; have NB366_368 := n9_; have NB368_366 := n10_; have NB367_368 := n11_; have NB368_367 := n12_; clear n0_ n1_ n2_ n3_ n4_ n5_ n6_ n7_ n8_ n9_ n10_ n11_ n12_; clear hb hbox hg))
  go_loopg [14] k (fun kq v14 w' => ∃ (x14_1 : Int), v14 = .int .i64 x14_1 ∧ Aside0 (limnerlaw04_AffineDets.l0 kq x14_1 a0_0 a0_1 a0_2 a0_3 a1_0 a1_1 a1_2 a1_3 = some r) ∧ Aside0 (kq ≤ k) ∧ Aside0 (w'.heap[gb365]? = some (.cells #[.int .i64 a0_0, .int .i64 a0_1, .int .i64 a0_2, .int .i64 a0_3] 60 (0, 0))) ∧ Aside0 (w'.heap[gb366]? = some (.cells #[.int .i64 a1_0, .int .i64 a1_1, .int .i64 a1_2, .int .i64 a1_3] 60 (0, 0))) ∧ Aside0 (w'.heap[gb367]? = some (.cells #[.int .i64 0, .int .i64 0, .int .i64 0, .int .i64 0, .int .i64 0, .int .i64 0] 23 (0, 0))) ∧ Aside0 (w'.heap[gb368]? = some (.cells #[.int .i64 0, .int .i64 0, .int .i64 0, .int .i64 0, .int .i64 0, .int .i64 0] 23 (0, 0))) ∧ Aside0 (Below w.heap.size w w'))
  case atStart => exact ⟨(0), (by first | rfl | (simp; done) | (simp [*]; done)), H', ⟨Nat.le_refl _⟩, ⟨by (with_reducible repeat (first | refine blk_drewN ?_ _ | refine blk_drew ?_ | refine blk_alloc ?_ _)); exact BK365.out⟩, ⟨by (with_reducible repeat (first | refine blk_drewN ?_ _ | refine blk_drew ?_ | refine blk_alloc ?_ _)); exact BK366.out⟩, ⟨by (with_reducible repeat (first | refine blk_drewN ?_ _ | refine blk_drew ?_ | refine blk_alloc ?_ _)); exact BK367.out⟩, ⟨by (with_reducible repeat (first | refine blk_drewN ?_ _ | refine blk_drew ?_ | refine blk_alloc ?_ _)); exact BK368.out⟩, ⟨by repeat (first | (with_reducible first | exact HB.out | apply below_alloc | apply pw_below_drewN | apply below_drew1 | refine below_set ?_ GE365.out | refine below_set ?_ GE366.out | refine below_set ?_ GE367.out | refine below_set ?_ GE368.out) | exact HB.out)⟩⟩
  case round =>
    clear H'
    try clear p2
    obtain ⟨x14_1, rfl, HA, HK1, BK365, BK366, BK367, BK368, HB⟩ := hrel
    cases gk with
    | zero => exact absurd HA.out (by simp [limnerlaw04_AffineDets.l0])
    | succ k1 =>
      have H := HA.out
      clear HA
      simp only [limnerlaw04_AffineDets.l0] at H
      by_cases c7 : x14_1 < 4
      · rw [if_pos c7] at H
        have c7b0 : decide (x14_1 < 4) = true := decide_eq_true c7
        clear c7
        by_cases c8 : 0 ≤ x14_1
        · rw [if_pos c8] at H
          have c8b0 : decide (0 ≤ x14_1) = true := decide_eq_true c8
          clear c8
          by_cases c9 : (rd ([a0_0, a0_1, a0_2, a0_3] : List Int) x14_1) < (-200)
          · rw [if_pos c9] at H
            have c9b0 : decide ((rd ([a0_0, a0_1, a0_2, a0_3] : List Int) x14_1) < (-200)) = true := decide_eq_true c9
            clear c9
            replace H := Option.bind_eq_some_iff.mp H
            obtain ⟨t369, A100, H⟩ := H
            replace H : (some t369) = some r := H
            have A10 := Aside0.mk A100
            clear A100
            obtain rfl := Option.some.inj H
            have hnb11 := NB365_366.out
            have hnc11 := NB366_365.out
            have hnb12 := NB365_367.out
            have hnc12 := NB367_365.out
            have hnb13 := NB365_368.out
            have hnc13 := NB368_365.out
            have hcz14_0 : wr.cell? ⟨gb365, 0, none⟩ = some (.int .i64 a0_0) := (blk_cell BK365.out 0).trans rfl
            have hcz14_1 : wr.cell? ⟨gb365, 1, none⟩ = some (.int .i64 a0_1) := (blk_cell BK365.out 1).trans rfl
            have hcz14_2 : wr.cell? ⟨gb365, 2, none⟩ = some (.int .i64 a0_2) := (blk_cell BK365.out 2).trans rfl
            have hcz14_3 : wr.cell? ⟨gb365, 3, none⟩ = some (.int .i64 a0_3) := (blk_cell BK365.out 3).trans rfl
            have hfz14_0 := blk_frozen BK365.out 0
            have hfz14_1 := blk_frozen BK365.out 1
            have hfz14_2 := blk_frozen BK365.out 2
            have hfz14_3 := blk_frozen BK365.out 3
            have hcxx15 : wr.cell? ⟨gb365, x14_1.toNat, none⟩ = some (.int .i64 (rd ([a0_0, a0_1, a0_2, a0_3] : List Int) x14_1)) := (blk_cell BK365.out x14_1.toNat).trans (XArr.get_int (k := .i64) [a0_0, a0_1, a0_2, a0_3] (of_decide_eq_true (by first | (with_reducible assumption) | assumption)) (of_decide_eq_true (by first | (with_reducible assumption) | assumption)))
            have hiyx15 : (0 ≤ x14_1 ∧ x14_1 < 4) = True := eq_true ⟨of_decide_eq_true (by first | (with_reducible assumption) | assumption), of_decide_eq_true (by first | (with_reducible assumption) | assumption)⟩
            go_wp2_with (first | ((with_reducible refine gate_callee (f := 21) rfl ?_); refine goesL_ (some 39) rfl rfl Try.func21 (by kernel_rfl) rfl #[] rfl (by (try simp only [List.map_toArray, List.map_cons, List.map_nil]); first | done | rfl | (simp only [List.length_drop, List.length_take]; rfl)) ?_; (with_reducible refine (limnerlaw04_awake.calls k1  t369 _ A10.out).mono ?_); rintro e w16 ⟨rfl, hb⟩; refine ⟨_, rfl, ?_⟩; have n0_ := Aside0.mk (blk_below (g := gb365) (o := .cells #[.int .i64 a0_0, .int .i64 a0_1, .int .i64 a0_2, .int .i64 a0_3] 60 (0, 0)) (by (with_reducible repeat (first | refine blk_drewN ?_ _ | refine blk_drew ?_ | refine blk_alloc ?_ _)); exact BK365.out) hb); have n1_ := Aside0.mk (blk_below (g := gb366) (o := .cells #[.int .i64 a1_0, .int .i64 a1_1, .int .i64 a1_2, .int .i64 a1_3] 60 (0, 0)) (by (with_reducible repeat (first | refine blk_drewN ?_ _ | refine blk_drew ?_ | refine blk_alloc ?_ _)); exact BK366.out) hb); have n2_ := Aside0.mk (blk_below (g := gb367) (o := .cells #[.int .i64 0, .int .i64 0, .int .i64 0, .int .i64 0, .int .i64 0, .int .i64 0] 23 (0, 0)) (by (with_reducible repeat (first | refine blk_drewN ?_ _ | refine blk_drew ?_ | refine blk_alloc ?_ _)); exact BK367.out) hb); have n3_ := Aside0.mk (blk_below (g := gb368) (o := .cells #[.int .i64 0, .int .i64 0, .int .i64 0, .int .i64 0, .int .i64 0, .int .i64 0] 23 (0, 0)) (by (with_reducible repeat (first | refine blk_drewN ?_ _ | refine blk_drew ?_ | refine blk_alloc ?_ _)); exact BK368.out) hb); have n4_ := Aside0.mk (below_step (by repeat (first | (with_reducible first | exact HB.out | apply below_alloc | apply pw_below_drewN | apply below_drew1 | refine below_set ?_ GE365.out | refine below_set ?_ GE366.out | refine below_set ?_ GE367.out | refine below_set ?_ GE368.out) | exact HB.out)) hb); clear BK365; clear BK366; clear BK367; clear BK368; clear HB; have BK365 := n0_; have BK366 := n1_; have BK367 := n2_; have BK368 := n3_; have HB := n4_; clear n0_ n1_ n2_ n3_ n4_; (try clear hb); (try clear hb2); (try clear hk); (try clear hi)))
            go_ret
            exact ⟨by first | rfl | (simp [errW_none, errW_some] <;> rfl) | (simp [*, errW_none, errW_some] <;> rfl), by repeat (first | (with_reducible first | exact HB.out | apply below_alloc | apply pw_below_drewN | apply below_drew1 | refine below_set ?_ GE365.out | refine below_set ?_ GE366.out | refine below_set ?_ GE367.out | refine below_set ?_ GE368.out) | exact HB.out)⟩
          · rw [if_neg c9] at H
            have c9b0 : decide ((rd ([a0_0, a0_1, a0_2, a0_3] : List Int) x14_1) < (-200)) = false := decide_eq_false c9
            clear c9
            by_cases c17 : (rd ([a0_0, a0_1, a0_2, a0_3] : List Int) x14_1) > 200
            · rw [if_pos c17] at H
              have c17b0 : decide (200 < (rd ([a0_0, a0_1, a0_2, a0_3] : List Int) x14_1)) = true := decide_eq_true c17
              clear c17
              replace H := Option.bind_eq_some_iff.mp H
              obtain ⟨t370, A180, H⟩ := H
              replace H : (some t370) = some r := H
              have A18 := Aside0.mk A180
              clear A180
              obtain rfl := Option.some.inj H
              have hnb19 := NB365_366.out
              have hnc19 := NB366_365.out
              have hnb20 := NB365_367.out
              have hnc20 := NB367_365.out
              have hnb21 := NB365_368.out
              have hnc21 := NB368_365.out
              have hcz22_0 : wr.cell? ⟨gb365, 0, none⟩ = some (.int .i64 a0_0) := (blk_cell BK365.out 0).trans rfl
              have hcz22_1 : wr.cell? ⟨gb365, 1, none⟩ = some (.int .i64 a0_1) := (blk_cell BK365.out 1).trans rfl
              have hcz22_2 : wr.cell? ⟨gb365, 2, none⟩ = some (.int .i64 a0_2) := (blk_cell BK365.out 2).trans rfl
              have hcz22_3 : wr.cell? ⟨gb365, 3, none⟩ = some (.int .i64 a0_3) := (blk_cell BK365.out 3).trans rfl
              have hfz22_0 := blk_frozen BK365.out 0
              have hfz22_1 := blk_frozen BK365.out 1
              have hfz22_2 := blk_frozen BK365.out 2
              have hfz22_3 := blk_frozen BK365.out 3
              have hcxx23 : wr.cell? ⟨gb365, x14_1.toNat, none⟩ = some (.int .i64 (rd ([a0_0, a0_1, a0_2, a0_3] : List Int) x14_1)) := (blk_cell BK365.out x14_1.toNat).trans (XArr.get_int (k := .i64) [a0_0, a0_1, a0_2, a0_3] (of_decide_eq_true (by first | (with_reducible assumption) | assumption)) (of_decide_eq_true (by first | (with_reducible assumption) | assumption)))
              have hiyx23 : (0 ≤ x14_1 ∧ x14_1 < 4) = True := eq_true ⟨of_decide_eq_true (by first | (with_reducible assumption) | assumption), of_decide_eq_true (by first | (with_reducible assumption) | assumption)⟩
              have hcxx24 : wr.cell? ⟨gb365, x14_1.toNat, none⟩ = some (.int .i64 (rd ([a0_0, a0_1, a0_2, a0_3] : List Int) x14_1)) := (blk_cell BK365.out x14_1.toNat).trans (XArr.get_int (k := .i64) [a0_0, a0_1, a0_2, a0_3] (of_decide_eq_true (by first | (with_reducible assumption) | assumption)) (of_decide_eq_true (by first | (with_reducible assumption) | assumption)))
              have hiyx24 : (0 ≤ x14_1 ∧ x14_1 < 4) = True := eq_true ⟨of_decide_eq_true (by first | (with_reducible assumption) | assumption), of_decide_eq_true (by first | (with_reducible assumption) | assumption)⟩
              go_wp2_with (first | ((with_reducible refine gate_callee (f := 21) rfl ?_); refine goesL_ (some 39) rfl rfl Try.func21 (by kernel_rfl) rfl #[] rfl (by (try simp only [List.map_toArray, List.map_cons, List.map_nil]); first | done | rfl | (simp only [List.length_drop, List.length_take]; rfl)) ?_; (with_reducible refine (limnerlaw04_awake.calls k1  t370 _ A18.out).mono ?_); rintro e w25 ⟨rfl, hb⟩; refine ⟨_, rfl, ?_⟩; have n0_ := Aside0.mk (blk_below (g := gb365) (o := .cells #[.int .i64 a0_0, .int .i64 a0_1, .int .i64 a0_2, .int .i64 a0_3] 60 (0, 0)) (by (with_reducible repeat (first | refine blk_drewN ?_ _ | refine blk_drew ?_ | refine blk_alloc ?_ _)); exact BK365.out) hb); have n1_ := Aside0.mk (blk_below (g := gb366) (o := .cells #[.int .i64 a1_0, .int .i64 a1_1, .int .i64 a1_2, .int .i64 a1_3] 60 (0, 0)) (by (with_reducible repeat (first | refine blk_drewN ?_ _ | refine blk_drew ?_ | refine blk_alloc ?_ _)); exact BK366.out) hb); have n2_ := Aside0.mk (blk_below (g := gb367) (o := .cells #[.int .i64 0, .int .i64 0, .int .i64 0, .int .i64 0, .int .i64 0, .int .i64 0] 23 (0, 0)) (by (with_reducible repeat (first | refine blk_drewN ?_ _ | refine blk_drew ?_ | refine blk_alloc ?_ _)); exact BK367.out) hb); have n3_ := Aside0.mk (blk_below (g := gb368) (o := .cells #[.int .i64 0, .int .i64 0, .int .i64 0, .int .i64 0, .int .i64 0, .int .i64 0] 23 (0, 0)) (by (with_reducible repeat (first | refine blk_drewN ?_ _ | refine blk_drew ?_ | refine blk_alloc ?_ _)); exact BK368.out) hb); have n4_ := Aside0.mk (below_step (by repeat (first | (with_reducible first | exact HB.out | apply below_alloc | apply pw_below_drewN | apply below_drew1 | refine below_set ?_ GE365.out | refine below_set ?_ GE366.out | refine below_set ?_ GE367.out | refine below_set ?_ GE368.out) | exact HB.out)) hb); clear BK365; clear BK366; clear BK367; clear BK368; clear HB; have BK365 := n0_; have BK366 := n1_; have BK367 := n2_; have BK368 := n3_; have HB := n4_; clear n0_ n1_ n2_ n3_ n4_; (try clear hb); (try clear hb2); (try clear hk); (try clear hi)))
              go_ret
              exact ⟨by first | rfl | (simp [errW_none, errW_some] <;> rfl) | (simp [*, errW_none, errW_some] <;> rfl), by repeat (first | (with_reducible first | exact HB.out | apply below_alloc | apply pw_below_drewN | apply below_drew1 | refine below_set ?_ GE365.out | refine below_set ?_ GE366.out | refine below_set ?_ GE367.out | refine below_set ?_ GE368.out) | exact HB.out)⟩
            · rw [if_neg c17] at H
              have c17b0 : decide (200 < (rd ([a0_0, a0_1, a0_2, a0_3] : List Int) x14_1)) = false := decide_eq_false c17
              clear c17
              by_cases c26 : (rd ([a1_0, a1_1, a1_2, a1_3] : List Int) x14_1) < (-200)
              · rw [if_pos c26] at H
                have c26b0 : decide ((rd ([a1_0, a1_1, a1_2, a1_3] : List Int) x14_1) < (-200)) = true := decide_eq_true c26
                clear c26
                replace H := Option.bind_eq_some_iff.mp H
                obtain ⟨t371, A270, H⟩ := H
                replace H : (some t371) = some r := H
                have A27 := Aside0.mk A270
                clear A270
                obtain rfl := Option.some.inj H
                have hnb28 := NB365_366.out
                have hnc28 := NB366_365.out
                have hnb29 := NB365_367.out
                have hnc29 := NB367_365.out
                have hnb30 := NB365_368.out
                have hnc30 := NB368_365.out
                have hcz31_0 : wr.cell? ⟨gb365, 0, none⟩ = some (.int .i64 a0_0) := (blk_cell BK365.out 0).trans rfl
                have hcz31_1 : wr.cell? ⟨gb365, 1, none⟩ = some (.int .i64 a0_1) := (blk_cell BK365.out 1).trans rfl
                have hcz31_2 : wr.cell? ⟨gb365, 2, none⟩ = some (.int .i64 a0_2) := (blk_cell BK365.out 2).trans rfl
                have hcz31_3 : wr.cell? ⟨gb365, 3, none⟩ = some (.int .i64 a0_3) := (blk_cell BK365.out 3).trans rfl
                have hfz31_0 := blk_frozen BK365.out 0
                have hfz31_1 := blk_frozen BK365.out 1
                have hfz31_2 := blk_frozen BK365.out 2
                have hfz31_3 := blk_frozen BK365.out 3
                have hcxx32 : wr.cell? ⟨gb365, x14_1.toNat, none⟩ = some (.int .i64 (rd ([a0_0, a0_1, a0_2, a0_3] : List Int) x14_1)) := (blk_cell BK365.out x14_1.toNat).trans (XArr.get_int (k := .i64) [a0_0, a0_1, a0_2, a0_3] (of_decide_eq_true (by first | (with_reducible assumption) | assumption)) (of_decide_eq_true (by first | (with_reducible assumption) | assumption)))
                have hiyx32 : (0 ≤ x14_1 ∧ x14_1 < 4) = True := eq_true ⟨of_decide_eq_true (by first | (with_reducible assumption) | assumption), of_decide_eq_true (by first | (with_reducible assumption) | assumption)⟩
                have hcxx33 : wr.cell? ⟨gb365, x14_1.toNat, none⟩ = some (.int .i64 (rd ([a0_0, a0_1, a0_2, a0_3] : List Int) x14_1)) := (blk_cell BK365.out x14_1.toNat).trans (XArr.get_int (k := .i64) [a0_0, a0_1, a0_2, a0_3] (of_decide_eq_true (by first | (with_reducible assumption) | assumption)) (of_decide_eq_true (by first | (with_reducible assumption) | assumption)))
                have hiyx33 : (0 ≤ x14_1 ∧ x14_1 < 4) = True := eq_true ⟨of_decide_eq_true (by first | (with_reducible assumption) | assumption), of_decide_eq_true (by first | (with_reducible assumption) | assumption)⟩
                have hnb34 := NB366_367.out
                have hnc34 := NB367_366.out
                have hnb35 := NB366_368.out
                have hnc35 := NB368_366.out
                have hcz36_0 : wr.cell? ⟨gb366, 0, none⟩ = some (.int .i64 a1_0) := (blk_cell BK366.out 0).trans rfl
                have hcz36_1 : wr.cell? ⟨gb366, 1, none⟩ = some (.int .i64 a1_1) := (blk_cell BK366.out 1).trans rfl
                have hcz36_2 : wr.cell? ⟨gb366, 2, none⟩ = some (.int .i64 a1_2) := (blk_cell BK366.out 2).trans rfl
                have hcz36_3 : wr.cell? ⟨gb366, 3, none⟩ = some (.int .i64 a1_3) := (blk_cell BK366.out 3).trans rfl
                have hfz36_0 := blk_frozen BK366.out 0
                have hfz36_1 := blk_frozen BK366.out 1
                have hfz36_2 := blk_frozen BK366.out 2
                have hfz36_3 := blk_frozen BK366.out 3
                have hcxx37 : wr.cell? ⟨gb366, x14_1.toNat, none⟩ = some (.int .i64 (rd ([a1_0, a1_1, a1_2, a1_3] : List Int) x14_1)) := (blk_cell BK366.out x14_1.toNat).trans (XArr.get_int (k := .i64) [a1_0, a1_1, a1_2, a1_3] (of_decide_eq_true (by first | (with_reducible assumption) | assumption)) (of_decide_eq_true (by first | (with_reducible assumption) | assumption)))
                have hiyx37 : (0 ≤ x14_1 ∧ x14_1 < 4) = True := eq_true ⟨of_decide_eq_true (by first | (with_reducible assumption) | assumption), of_decide_eq_true (by first | (with_reducible assumption) | assumption)⟩
                go_wp2_with (first | ((with_reducible refine gate_callee (f := 21) rfl ?_); refine goesL_ (some 39) rfl rfl Try.func21 (by kernel_rfl) rfl #[] rfl (by (try simp only [List.map_toArray, List.map_cons, List.map_nil]); first | done | rfl | (simp only [List.length_drop, List.length_take]; rfl)) ?_; (with_reducible refine (limnerlaw04_awake.calls k1  t371 _ A27.out).mono ?_); rintro e w38 ⟨rfl, hb⟩; refine ⟨_, rfl, ?_⟩; have n0_ := Aside0.mk (blk_below (g := gb365) (o := .cells #[.int .i64 a0_0, .int .i64 a0_1, .int .i64 a0_2, .int .i64 a0_3] 60 (0, 0)) (by (with_reducible repeat (first | refine blk_drewN ?_ _ | refine blk_drew ?_ | refine blk_alloc ?_ _)); exact BK365.out) hb); have n1_ := Aside0.mk (blk_below (g := gb366) (o := .cells #[.int .i64 a1_0, .int .i64 a1_1, .int .i64 a1_2, .int .i64 a1_3] 60 (0, 0)) (by (with_reducible repeat (first | refine blk_drewN ?_ _ | refine blk_drew ?_ | refine blk_alloc ?_ _)); exact BK366.out) hb); have n2_ := Aside0.mk (blk_below (g := gb367) (o := .cells #[.int .i64 0, .int .i64 0, .int .i64 0, .int .i64 0, .int .i64 0, .int .i64 0] 23 (0, 0)) (by (with_reducible repeat (first | refine blk_drewN ?_ _ | refine blk_drew ?_ | refine blk_alloc ?_ _)); exact BK367.out) hb); have n3_ := Aside0.mk (blk_below (g := gb368) (o := .cells #[.int .i64 0, .int .i64 0, .int .i64 0, .int .i64 0, .int .i64 0, .int .i64 0] 23 (0, 0)) (by (with_reducible repeat (first | refine blk_drewN ?_ _ | refine blk_drew ?_ | refine blk_alloc ?_ _)); exact BK368.out) hb); have n4_ := Aside0.mk (below_step (by repeat (first | (with_reducible first | exact HB.out | apply below_alloc | apply pw_below_drewN | apply below_drew1 | refine below_set ?_ GE365.out | refine below_set ?_ GE366.out | refine below_set ?_ GE367.out | refine below_set ?_ GE368.out) | exact HB.out)) hb); clear BK365; clear BK366; clear BK367; clear BK368; clear HB; have BK365 := n0_; have BK366 := n1_; have BK367 := n2_; have BK368 := n3_; have HB := n4_; clear n0_ n1_ n2_ n3_ n4_; (try clear hb); (try clear hb2); (try clear hk); (try clear hi)))
                go_ret
                exact ⟨by first | rfl | (simp [errW_none, errW_some] <;> rfl) | (simp [*, errW_none, errW_some] <;> rfl), by repeat (first | (with_reducible first | exact HB.out | apply below_alloc | apply pw_below_drewN | apply below_drew1 | refine below_set ?_ GE365.out | refine below_set ?_ GE366.out | refine below_set ?_ GE367.out | refine below_set ?_ GE368.out) | exact HB.out)⟩
              · rw [if_neg c26] at H
                have c26b0 : decide ((rd ([a1_0, a1_1, a1_2, a1_3] : List Int) x14_1) < (-200)) = false := decide_eq_false c26
                clear c26
                by_cases c39 : (rd ([a1_0, a1_1, a1_2, a1_3] : List Int) x14_1) > 200
                · rw [if_pos c39] at H
                  have c39b0 : decide (200 < (rd ([a1_0, a1_1, a1_2, a1_3] : List Int) x14_1)) = true := decide_eq_true c39
                  clear c39
                  replace H := Option.bind_eq_some_iff.mp H
                  obtain ⟨t372, A400, H⟩ := H
                  replace H : (some t372) = some r := H
                  have A40 := Aside0.mk A400
                  clear A400
                  obtain rfl := Option.some.inj H
                  have hnb41 := NB365_366.out
                  have hnc41 := NB366_365.out
                  have hnb42 := NB365_367.out
                  have hnc42 := NB367_365.out
                  have hnb43 := NB365_368.out
                  have hnc43 := NB368_365.out
                  have hcz44_0 : wr.cell? ⟨gb365, 0, none⟩ = some (.int .i64 a0_0) := (blk_cell BK365.out 0).trans rfl
                  have hcz44_1 : wr.cell? ⟨gb365, 1, none⟩ = some (.int .i64 a0_1) := (blk_cell BK365.out 1).trans rfl
                  have hcz44_2 : wr.cell? ⟨gb365, 2, none⟩ = some (.int .i64 a0_2) := (blk_cell BK365.out 2).trans rfl
                  have hcz44_3 : wr.cell? ⟨gb365, 3, none⟩ = some (.int .i64 a0_3) := (blk_cell BK365.out 3).trans rfl
                  have hfz44_0 := blk_frozen BK365.out 0
                  have hfz44_1 := blk_frozen BK365.out 1
                  have hfz44_2 := blk_frozen BK365.out 2
                  have hfz44_3 := blk_frozen BK365.out 3
                  have hcxx45 : wr.cell? ⟨gb365, x14_1.toNat, none⟩ = some (.int .i64 (rd ([a0_0, a0_1, a0_2, a0_3] : List Int) x14_1)) := (blk_cell BK365.out x14_1.toNat).trans (XArr.get_int (k := .i64) [a0_0, a0_1, a0_2, a0_3] (of_decide_eq_true (by first | (with_reducible assumption) | assumption)) (of_decide_eq_true (by first | (with_reducible assumption) | assumption)))
                  have hiyx45 : (0 ≤ x14_1 ∧ x14_1 < 4) = True := eq_true ⟨of_decide_eq_true (by first | (with_reducible assumption) | assumption), of_decide_eq_true (by first | (with_reducible assumption) | assumption)⟩
                  have hcxx46 : wr.cell? ⟨gb365, x14_1.toNat, none⟩ = some (.int .i64 (rd ([a0_0, a0_1, a0_2, a0_3] : List Int) x14_1)) := (blk_cell BK365.out x14_1.toNat).trans (XArr.get_int (k := .i64) [a0_0, a0_1, a0_2, a0_3] (of_decide_eq_true (by first | (with_reducible assumption) | assumption)) (of_decide_eq_true (by first | (with_reducible assumption) | assumption)))
                  have hiyx46 : (0 ≤ x14_1 ∧ x14_1 < 4) = True := eq_true ⟨of_decide_eq_true (by first | (with_reducible assumption) | assumption), of_decide_eq_true (by first | (with_reducible assumption) | assumption)⟩
                  have hnb47 := NB366_367.out
                  have hnc47 := NB367_366.out
                  have hnb48 := NB366_368.out
                  have hnc48 := NB368_366.out
                  have hcz49_0 : wr.cell? ⟨gb366, 0, none⟩ = some (.int .i64 a1_0) := (blk_cell BK366.out 0).trans rfl
                  have hcz49_1 : wr.cell? ⟨gb366, 1, none⟩ = some (.int .i64 a1_1) := (blk_cell BK366.out 1).trans rfl
                  have hcz49_2 : wr.cell? ⟨gb366, 2, none⟩ = some (.int .i64 a1_2) := (blk_cell BK366.out 2).trans rfl
                  have hcz49_3 : wr.cell? ⟨gb366, 3, none⟩ = some (.int .i64 a1_3) := (blk_cell BK366.out 3).trans rfl
                  have hfz49_0 := blk_frozen BK366.out 0
                  have hfz49_1 := blk_frozen BK366.out 1
                  have hfz49_2 := blk_frozen BK366.out 2
                  have hfz49_3 := blk_frozen BK366.out 3
                  have hcxx50 : wr.cell? ⟨gb366, x14_1.toNat, none⟩ = some (.int .i64 (rd ([a1_0, a1_1, a1_2, a1_3] : List Int) x14_1)) := (blk_cell BK366.out x14_1.toNat).trans (XArr.get_int (k := .i64) [a1_0, a1_1, a1_2, a1_3] (of_decide_eq_true (by first | (with_reducible assumption) | assumption)) (of_decide_eq_true (by first | (with_reducible assumption) | assumption)))
                  have hiyx50 : (0 ≤ x14_1 ∧ x14_1 < 4) = True := eq_true ⟨of_decide_eq_true (by first | (with_reducible assumption) | assumption), of_decide_eq_true (by first | (with_reducible assumption) | assumption)⟩
                  have hcxx51 : wr.cell? ⟨gb366, x14_1.toNat, none⟩ = some (.int .i64 (rd ([a1_0, a1_1, a1_2, a1_3] : List Int) x14_1)) := (blk_cell BK366.out x14_1.toNat).trans (XArr.get_int (k := .i64) [a1_0, a1_1, a1_2, a1_3] (of_decide_eq_true (by first | (with_reducible assumption) | assumption)) (of_decide_eq_true (by first | (with_reducible assumption) | assumption)))
                  have hiyx51 : (0 ≤ x14_1 ∧ x14_1 < 4) = True := eq_true ⟨of_decide_eq_true (by first | (with_reducible assumption) | assumption), of_decide_eq_true (by first | (with_reducible assumption) | assumption)⟩
                  go_wp2_with (first | ((with_reducible refine gate_callee (f := 21) rfl ?_); refine goesL_ (some 39) rfl rfl Try.func21 (by kernel_rfl) rfl #[] rfl (by (try simp only [List.map_toArray, List.map_cons, List.map_nil]); first | done | rfl | (simp only [List.length_drop, List.length_take]; rfl)) ?_; (with_reducible refine (limnerlaw04_awake.calls k1  t372 _ A40.out).mono ?_); rintro e w52 ⟨rfl, hb⟩; refine ⟨_, rfl, ?_⟩; have n0_ := Aside0.mk (blk_below (g := gb365) (o := .cells #[.int .i64 a0_0, .int .i64 a0_1, .int .i64 a0_2, .int .i64 a0_3] 60 (0, 0)) (by (with_reducible repeat (first | refine blk_drewN ?_ _ | refine blk_drew ?_ | refine blk_alloc ?_ _)); exact BK365.out) hb); have n1_ := Aside0.mk (blk_below (g := gb366) (o := .cells #[.int .i64 a1_0, .int .i64 a1_1, .int .i64 a1_2, .int .i64 a1_3] 60 (0, 0)) (by (with_reducible repeat (first | refine blk_drewN ?_ _ | refine blk_drew ?_ | refine blk_alloc ?_ _)); exact BK366.out) hb); have n2_ := Aside0.mk (blk_below (g := gb367) (o := .cells #[.int .i64 0, .int .i64 0, .int .i64 0, .int .i64 0, .int .i64 0, .int .i64 0] 23 (0, 0)) (by (with_reducible repeat (first | refine blk_drewN ?_ _ | refine blk_drew ?_ | refine blk_alloc ?_ _)); exact BK367.out) hb); have n3_ := Aside0.mk (blk_below (g := gb368) (o := .cells #[.int .i64 0, .int .i64 0, .int .i64 0, .int .i64 0, .int .i64 0, .int .i64 0] 23 (0, 0)) (by (with_reducible repeat (first | refine blk_drewN ?_ _ | refine blk_drew ?_ | refine blk_alloc ?_ _)); exact BK368.out) hb); have n4_ := Aside0.mk (below_step (by repeat (first | (with_reducible first | exact HB.out | apply below_alloc | apply pw_below_drewN | apply below_drew1 | refine below_set ?_ GE365.out | refine below_set ?_ GE366.out | refine below_set ?_ GE367.out | refine below_set ?_ GE368.out) | exact HB.out)) hb); clear BK365; clear BK366; clear BK367; clear BK368; clear HB; have BK365 := n0_; have BK366 := n1_; have BK367 := n2_; have BK368 := n3_; have HB := n4_; clear n0_ n1_ n2_ n3_ n4_; (try clear hb); (try clear hb2); (try clear hk); (try clear hi)))
                  go_ret
                  exact ⟨by first | rfl | (simp [errW_none, errW_some] <;> rfl) | (simp [*, errW_none, errW_some] <;> rfl), by repeat (first | (with_reducible first | exact HB.out | apply below_alloc | apply pw_below_drewN | apply below_drew1 | refine below_set ?_ GE365.out | refine below_set ?_ GE366.out | refine below_set ?_ GE367.out | refine below_set ?_ GE368.out) | exact HB.out)⟩
                · rw [if_neg c39] at H
                  have c39b0 : decide (200 < (rd ([a1_0, a1_1, a1_2, a1_3] : List Int) x14_1)) = false := decide_eq_false c39
                  clear c39
                  have H' := Aside0.mk H
                  clear H
                  have hnb53 := NB365_366.out
                  have hnc53 := NB366_365.out
                  have hnb54 := NB365_367.out
                  have hnc54 := NB367_365.out
                  have hnb55 := NB365_368.out
                  have hnc55 := NB368_365.out
                  have hcz56_0 : wr.cell? ⟨gb365, 0, none⟩ = some (.int .i64 a0_0) := (blk_cell BK365.out 0).trans rfl
                  have hcz56_1 : wr.cell? ⟨gb365, 1, none⟩ = some (.int .i64 a0_1) := (blk_cell BK365.out 1).trans rfl
                  have hcz56_2 : wr.cell? ⟨gb365, 2, none⟩ = some (.int .i64 a0_2) := (blk_cell BK365.out 2).trans rfl
                  have hcz56_3 : wr.cell? ⟨gb365, 3, none⟩ = some (.int .i64 a0_3) := (blk_cell BK365.out 3).trans rfl
                  have hfz56_0 := blk_frozen BK365.out 0
                  have hfz56_1 := blk_frozen BK365.out 1
                  have hfz56_2 := blk_frozen BK365.out 2
                  have hfz56_3 := blk_frozen BK365.out 3
                  have hcxx57 : wr.cell? ⟨gb365, x14_1.toNat, none⟩ = some (.int .i64 (rd ([a0_0, a0_1, a0_2, a0_3] : List Int) x14_1)) := (blk_cell BK365.out x14_1.toNat).trans (XArr.get_int (k := .i64) [a0_0, a0_1, a0_2, a0_3] (of_decide_eq_true (by first | (with_reducible assumption) | assumption)) (of_decide_eq_true (by first | (with_reducible assumption) | assumption)))
                  have hiyx57 : (0 ≤ x14_1 ∧ x14_1 < 4) = True := eq_true ⟨of_decide_eq_true (by first | (with_reducible assumption) | assumption), of_decide_eq_true (by first | (with_reducible assumption) | assumption)⟩
                  have hcxx58 : wr.cell? ⟨gb365, x14_1.toNat, none⟩ = some (.int .i64 (rd ([a0_0, a0_1, a0_2, a0_3] : List Int) x14_1)) := (blk_cell BK365.out x14_1.toNat).trans (XArr.get_int (k := .i64) [a0_0, a0_1, a0_2, a0_3] (of_decide_eq_true (by first | (with_reducible assumption) | assumption)) (of_decide_eq_true (by first | (with_reducible assumption) | assumption)))
                  have hiyx58 : (0 ≤ x14_1 ∧ x14_1 < 4) = True := eq_true ⟨of_decide_eq_true (by first | (with_reducible assumption) | assumption), of_decide_eq_true (by first | (with_reducible assumption) | assumption)⟩
                  have hnb59 := NB366_367.out
                  have hnc59 := NB367_366.out
                  have hnb60 := NB366_368.out
                  have hnc60 := NB368_366.out
                  have hcz61_0 : wr.cell? ⟨gb366, 0, none⟩ = some (.int .i64 a1_0) := (blk_cell BK366.out 0).trans rfl
                  have hcz61_1 : wr.cell? ⟨gb366, 1, none⟩ = some (.int .i64 a1_1) := (blk_cell BK366.out 1).trans rfl
                  have hcz61_2 : wr.cell? ⟨gb366, 2, none⟩ = some (.int .i64 a1_2) := (blk_cell BK366.out 2).trans rfl
                  have hcz61_3 : wr.cell? ⟨gb366, 3, none⟩ = some (.int .i64 a1_3) := (blk_cell BK366.out 3).trans rfl
                  have hfz61_0 := blk_frozen BK366.out 0
                  have hfz61_1 := blk_frozen BK366.out 1
                  have hfz61_2 := blk_frozen BK366.out 2
                  have hfz61_3 := blk_frozen BK366.out 3
                  have hcxx62 : wr.cell? ⟨gb366, x14_1.toNat, none⟩ = some (.int .i64 (rd ([a1_0, a1_1, a1_2, a1_3] : List Int) x14_1)) := (blk_cell BK366.out x14_1.toNat).trans (XArr.get_int (k := .i64) [a1_0, a1_1, a1_2, a1_3] (of_decide_eq_true (by first | (with_reducible assumption) | assumption)) (of_decide_eq_true (by first | (with_reducible assumption) | assumption)))
                  have hiyx62 : (0 ≤ x14_1 ∧ x14_1 < 4) = True := eq_true ⟨of_decide_eq_true (by first | (with_reducible assumption) | assumption), of_decide_eq_true (by first | (with_reducible assumption) | assumption)⟩
                  have hcxx63 : wr.cell? ⟨gb366, x14_1.toNat, none⟩ = some (.int .i64 (rd ([a1_0, a1_1, a1_2, a1_3] : List Int) x14_1)) := (blk_cell BK366.out x14_1.toNat).trans (XArr.get_int (k := .i64) [a1_0, a1_1, a1_2, a1_3] (of_decide_eq_true (by first | (with_reducible assumption) | assumption)) (of_decide_eq_true (by first | (with_reducible assumption) | assumption)))
                  have hiyx63 : (0 ≤ x14_1 ∧ x14_1 < 4) = True := eq_true ⟨of_decide_eq_true (by first | (with_reducible assumption) | assumption), of_decide_eq_true (by first | (with_reducible assumption) | assumption)⟩
                  go_wp2
                  go_roundg k1
                  case measure => have := HK1.out; omega
                  case rel => exact ⟨(wrap64 (x14_1 + 1)), (by first | rfl | (simp; done) | (simp [*]; done)), H', ⟨by have := HK1.out; omega⟩, ⟨by (with_reducible repeat (first | refine blk_drewN ?_ _ | refine blk_drew ?_ | refine blk_alloc ?_ _)); exact BK365.out⟩, ⟨by (with_reducible repeat (first | refine blk_drewN ?_ _ | refine blk_drew ?_ | refine blk_alloc ?_ _)); exact BK366.out⟩, ⟨by (with_reducible repeat (first | refine blk_drewN ?_ _ | refine blk_drew ?_ | refine blk_alloc ?_ _)); exact BK367.out⟩, ⟨by (with_reducible repeat (first | refine blk_drewN ?_ _ | refine blk_drew ?_ | refine blk_alloc ?_ _)); exact BK368.out⟩, ⟨by repeat (first | (with_reducible first | exact HB.out | apply below_alloc | apply pw_below_drewN | apply below_drew1 | refine below_set ?_ GE365.out | refine below_set ?_ GE366.out | refine below_set ?_ GE367.out | refine below_set ?_ GE368.out) | exact HB.out)⟩⟩
        · rw [if_neg c8] at H
          exact absurd H (by simp)
      · rw [if_neg c7] at H
        have c7b0 : decide (x14_1 < 4) = false := decide_eq_false c7
        clear c7
        replace H := Option.bind_eq_some_iff.mp H
        obtain ⟨⟨t373, t374, t375, t376, t377, t378, t379⟩, A640, H⟩ := H
        replace H : (if t379 = 0 then ((affine_Matrix_Det.f (wrap64 (a0_0 * 65536)) (wrap64 (a0_1 * 65536)) (wrap64 (a0_2 * 65536)) (wrap64 (a0_3 * 65536)) 0 0).bind fun bt382 => ((wide_Num_Shr.f bt382.1 bt382.2 32).bind fun bt384 => ((wide_Num_Int.f bt384.1 bt384.2).bind fun bt386 => ((affine_Matrix_Det.f (wrap64 (a1_0 * 65536)) (wrap64 (a1_1 * 65536)) (wrap64 (a1_2 * 65536)) (wrap64 (a1_3 * 65536)) 0 0).bind fun bt388 => ((wide_Num_Shr.f bt388.1 bt388.2 32).bind fun bt390 => ((wide_Num_Int.f bt390.1 bt390.2).bind fun bt392 => ((affine_Matrix_Det.f t373 t374 t375 t376 t377 t378).bind fun bt394 => ((wide_Num_Shr.f bt394.1 bt394.2 32).bind fun bt396 => ((wide_Mul.f bt386.1 bt392.1).bind fun bt398 => (if (bt396.1 == bt398.1 && (bt396.2 == bt398.2)) = true then ((affine_Matrix_Det.f (wrap64 (a0_0 * 65536)) (wrap64 (a0_1 * 65536)) (wrap64 (a0_2 * 65536)) (wrap64 (a0_3 * 65536)) 0 0).bind fun bt400 => ((wide_Mul.f (wrap64 ((wrap64 (a0_0 * a0_3)) - (wrap64 (a0_1 * a0_2)))) 4294967296).bind fun bt402 => (if (bt400.1 == bt402.1 && (bt400.2 == bt402.2)) = true then ((limnerlaw04_awake.f k1).bind fun t404 => (some t404)) else (none)))) else (none))))))))))) else ((limnerlaw04_awake.f k1).bind fun t381 => (some t381))) = some r := H
        have A64 := Aside0.mk A640
        clear A640
        by_cases c65 : t379 = 0
        · rw [if_pos c65] at H
          have c65b0 : (t379 == 0) = true := beq_iff_eq.mpr c65
          have c65b1 : (t379 != 0) = false := bne_eq_false_iff_eq.mpr c65
          clear c65
          replace H := Option.bind_eq_some_iff.mp H
          obtain ⟨⟨t382, t383⟩, A660, H⟩ := H
          replace H : ((wide_Num_Shr.f t382 t383 32).bind fun bt384 => ((wide_Num_Int.f bt384.1 bt384.2).bind fun bt386 => ((affine_Matrix_Det.f (wrap64 (a1_0 * 65536)) (wrap64 (a1_1 * 65536)) (wrap64 (a1_2 * 65536)) (wrap64 (a1_3 * 65536)) 0 0).bind fun bt388 => ((wide_Num_Shr.f bt388.1 bt388.2 32).bind fun bt390 => ((wide_Num_Int.f bt390.1 bt390.2).bind fun bt392 => ((affine_Matrix_Det.f t373 t374 t375 t376 t377 t378).bind fun bt394 => ((wide_Num_Shr.f bt394.1 bt394.2 32).bind fun bt396 => ((wide_Mul.f bt386.1 bt392.1).bind fun bt398 => (if (bt396.1 == bt398.1 && (bt396.2 == bt398.2)) = true then ((affine_Matrix_Det.f (wrap64 (a0_0 * 65536)) (wrap64 (a0_1 * 65536)) (wrap64 (a0_2 * 65536)) (wrap64 (a0_3 * 65536)) 0 0).bind fun bt400 => ((wide_Mul.f (wrap64 ((wrap64 (a0_0 * a0_3)) - (wrap64 (a0_1 * a0_2)))) 4294967296).bind fun bt402 => (if (bt400.1 == bt402.1 && (bt400.2 == bt402.2)) = true then ((limnerlaw04_awake.f k1).bind fun t404 => (some t404)) else (none)))) else (none)))))))))) = some r := H
          have A66 := Aside0.mk A660
          clear A660
          replace H := Option.bind_eq_some_iff.mp H
          obtain ⟨⟨t384, t385⟩, A670, H⟩ := H
          replace H : ((wide_Num_Int.f t384 t385).bind fun bt386 => ((affine_Matrix_Det.f (wrap64 (a1_0 * 65536)) (wrap64 (a1_1 * 65536)) (wrap64 (a1_2 * 65536)) (wrap64 (a1_3 * 65536)) 0 0).bind fun bt388 => ((wide_Num_Shr.f bt388.1 bt388.2 32).bind fun bt390 => ((wide_Num_Int.f bt390.1 bt390.2).bind fun bt392 => ((affine_Matrix_Det.f t373 t374 t375 t376 t377 t378).bind fun bt394 => ((wide_Num_Shr.f bt394.1 bt394.2 32).bind fun bt396 => ((wide_Mul.f bt386.1 bt392.1).bind fun bt398 => (if (bt396.1 == bt398.1 && (bt396.2 == bt398.2)) = true then ((affine_Matrix_Det.f (wrap64 (a0_0 * 65536)) (wrap64 (a0_1 * 65536)) (wrap64 (a0_2 * 65536)) (wrap64 (a0_3 * 65536)) 0 0).bind fun bt400 => ((wide_Mul.f (wrap64 ((wrap64 (a0_0 * a0_3)) - (wrap64 (a0_1 * a0_2)))) 4294967296).bind fun bt402 => (if (bt400.1 == bt402.1 && (bt400.2 == bt402.2)) = true then ((limnerlaw04_awake.f k1).bind fun t404 => (some t404)) else (none)))) else (none))))))))) = some r := H
          have A67 := Aside0.mk A670
          clear A670
          replace H := Option.bind_eq_some_iff.mp H
          obtain ⟨⟨t386, t387⟩, A680, H⟩ := H
          replace H : ((affine_Matrix_Det.f (wrap64 (a1_0 * 65536)) (wrap64 (a1_1 * 65536)) (wrap64 (a1_2 * 65536)) (wrap64 (a1_3 * 65536)) 0 0).bind fun bt388 => ((wide_Num_Shr.f bt388.1 bt388.2 32).bind fun bt390 => ((wide_Num_Int.f bt390.1 bt390.2).bind fun bt392 => ((affine_Matrix_Det.f t373 t374 t375 t376 t377 t378).bind fun bt394 => ((wide_Num_Shr.f bt394.1 bt394.2 32).bind fun bt396 => ((wide_Mul.f t386 bt392.1).bind fun bt398 => (if (bt396.1 == bt398.1 && (bt396.2 == bt398.2)) = true then ((affine_Matrix_Det.f (wrap64 (a0_0 * 65536)) (wrap64 (a0_1 * 65536)) (wrap64 (a0_2 * 65536)) (wrap64 (a0_3 * 65536)) 0 0).bind fun bt400 => ((wide_Mul.f (wrap64 ((wrap64 (a0_0 * a0_3)) - (wrap64 (a0_1 * a0_2)))) 4294967296).bind fun bt402 => (if (bt400.1 == bt402.1 && (bt400.2 == bt402.2)) = true then ((limnerlaw04_awake.f k1).bind fun t404 => (some t404)) else (none)))) else (none)))))))) = some r := H
          have A68 := Aside0.mk A680
          clear A680
          replace H := Option.bind_eq_some_iff.mp H
          obtain ⟨⟨t388, t389⟩, A690, H⟩ := H
          replace H : ((wide_Num_Shr.f t388 t389 32).bind fun bt390 => ((wide_Num_Int.f bt390.1 bt390.2).bind fun bt392 => ((affine_Matrix_Det.f t373 t374 t375 t376 t377 t378).bind fun bt394 => ((wide_Num_Shr.f bt394.1 bt394.2 32).bind fun bt396 => ((wide_Mul.f t386 bt392.1).bind fun bt398 => (if (bt396.1 == bt398.1 && (bt396.2 == bt398.2)) = true then ((affine_Matrix_Det.f (wrap64 (a0_0 * 65536)) (wrap64 (a0_1 * 65536)) (wrap64 (a0_2 * 65536)) (wrap64 (a0_3 * 65536)) 0 0).bind fun bt400 => ((wide_Mul.f (wrap64 ((wrap64 (a0_0 * a0_3)) - (wrap64 (a0_1 * a0_2)))) 4294967296).bind fun bt402 => (if (bt400.1 == bt402.1 && (bt400.2 == bt402.2)) = true then ((limnerlaw04_awake.f k1).bind fun t404 => (some t404)) else (none)))) else (none))))))) = some r := H
          have A69 := Aside0.mk A690
          clear A690
          replace H := Option.bind_eq_some_iff.mp H
          obtain ⟨⟨t390, t391⟩, A700, H⟩ := H
          replace H : ((wide_Num_Int.f t390 t391).bind fun bt392 => ((affine_Matrix_Det.f t373 t374 t375 t376 t377 t378).bind fun bt394 => ((wide_Num_Shr.f bt394.1 bt394.2 32).bind fun bt396 => ((wide_Mul.f t386 bt392.1).bind fun bt398 => (if (bt396.1 == bt398.1 && (bt396.2 == bt398.2)) = true then ((affine_Matrix_Det.f (wrap64 (a0_0 * 65536)) (wrap64 (a0_1 * 65536)) (wrap64 (a0_2 * 65536)) (wrap64 (a0_3 * 65536)) 0 0).bind fun bt400 => ((wide_Mul.f (wrap64 ((wrap64 (a0_0 * a0_3)) - (wrap64 (a0_1 * a0_2)))) 4294967296).bind fun bt402 => (if (bt400.1 == bt402.1 && (bt400.2 == bt402.2)) = true then ((limnerlaw04_awake.f k1).bind fun t404 => (some t404)) else (none)))) else (none)))))) = some r := H
          have A70 := Aside0.mk A700
          clear A700
          replace H := Option.bind_eq_some_iff.mp H
          obtain ⟨⟨t392, t393⟩, A710, H⟩ := H
          replace H : ((affine_Matrix_Det.f t373 t374 t375 t376 t377 t378).bind fun bt394 => ((wide_Num_Shr.f bt394.1 bt394.2 32).bind fun bt396 => ((wide_Mul.f t386 t392).bind fun bt398 => (if (bt396.1 == bt398.1 && (bt396.2 == bt398.2)) = true then ((affine_Matrix_Det.f (wrap64 (a0_0 * 65536)) (wrap64 (a0_1 * 65536)) (wrap64 (a0_2 * 65536)) (wrap64 (a0_3 * 65536)) 0 0).bind fun bt400 => ((wide_Mul.f (wrap64 ((wrap64 (a0_0 * a0_3)) - (wrap64 (a0_1 * a0_2)))) 4294967296).bind fun bt402 => (if (bt400.1 == bt402.1 && (bt400.2 == bt402.2)) = true then ((limnerlaw04_awake.f k1).bind fun t404 => (some t404)) else (none)))) else (none))))) = some r := H
          have A71 := Aside0.mk A710
          clear A710
          replace H := Option.bind_eq_some_iff.mp H
          obtain ⟨⟨t394, t395⟩, A720, H⟩ := H
          replace H : ((wide_Num_Shr.f t394 t395 32).bind fun bt396 => ((wide_Mul.f t386 t392).bind fun bt398 => (if (bt396.1 == bt398.1 && (bt396.2 == bt398.2)) = true then ((affine_Matrix_Det.f (wrap64 (a0_0 * 65536)) (wrap64 (a0_1 * 65536)) (wrap64 (a0_2 * 65536)) (wrap64 (a0_3 * 65536)) 0 0).bind fun bt400 => ((wide_Mul.f (wrap64 ((wrap64 (a0_0 * a0_3)) - (wrap64 (a0_1 * a0_2)))) 4294967296).bind fun bt402 => (if (bt400.1 == bt402.1 && (bt400.2 == bt402.2)) = true then ((limnerlaw04_awake.f k1).bind fun t404 => (some t404)) else (none)))) else (none)))) = some r := H
          have A72 := Aside0.mk A720
          clear A720
          replace H := Option.bind_eq_some_iff.mp H
          obtain ⟨⟨t396, t397⟩, A730, H⟩ := H
          replace H : ((wide_Mul.f t386 t392).bind fun bt398 => (if (t396 == bt398.1 && (t397 == bt398.2)) = true then ((affine_Matrix_Det.f (wrap64 (a0_0 * 65536)) (wrap64 (a0_1 * 65536)) (wrap64 (a0_2 * 65536)) (wrap64 (a0_3 * 65536)) 0 0).bind fun bt400 => ((wide_Mul.f (wrap64 ((wrap64 (a0_0 * a0_3)) - (wrap64 (a0_1 * a0_2)))) 4294967296).bind fun bt402 => (if (bt400.1 == bt402.1 && (bt400.2 == bt402.2)) = true then ((limnerlaw04_awake.f k1).bind fun t404 => (some t404)) else (none)))) else (none))) = some r := H
          have A73 := Aside0.mk A730
          clear A730
          replace H := Option.bind_eq_some_iff.mp H
          obtain ⟨⟨t398, t399⟩, A740, H⟩ := H
          replace H : (if (t396 == t398 && (t397 == t399)) = true then ((affine_Matrix_Det.f (wrap64 (a0_0 * 65536)) (wrap64 (a0_1 * 65536)) (wrap64 (a0_2 * 65536)) (wrap64 (a0_3 * 65536)) 0 0).bind fun bt400 => ((wide_Mul.f (wrap64 ((wrap64 (a0_0 * a0_3)) - (wrap64 (a0_1 * a0_2)))) 4294967296).bind fun bt402 => (if (bt400.1 == bt402.1 && (bt400.2 == bt402.2)) = true then ((limnerlaw04_awake.f k1).bind fun t404 => (some t404)) else (none)))) else (none)) = some r := H
          have A74 := Aside0.mk A740
          clear A740
          by_cases c75 : (t396 == t398 && (t397 == t399)) = true
          · rw [if_pos c75] at H
            have c75b0 : (t396 == t398 && (t397 == t399)) = true := c75
            (try (have c75b1 : decide (t396 = t398 && (t397 == t399)) = true := by simpa using c75))
            (try (have c75b2 : (t396 == t398 && (t397 == t399)) = true := by simpa using c75))
            clear c75
            replace H := Option.bind_eq_some_iff.mp H
            obtain ⟨⟨t400, t401⟩, A760, H⟩ := H
            have E77 := A66.out.symm.trans A760
            simp only [Option.some.injEq, Prod.mk.injEq] at E77
            obtain ⟨rfl, rfl⟩ := E77
            replace H : ((wide_Mul.f (wrap64 ((wrap64 (a0_0 * a0_3)) - (wrap64 (a0_1 * a0_2)))) 4294967296).bind fun bt402 => (if (t382 == bt402.1 && (t383 == bt402.2)) = true then ((limnerlaw04_awake.f k1).bind fun t404 => (some t404)) else (none))) = some r := H
            have A76 := Aside0.mk A760
            clear A760
            replace H := Option.bind_eq_some_iff.mp H
            obtain ⟨⟨t402, t403⟩, A780, H⟩ := H
            replace H : (if (t382 == t402 && (t383 == t403)) = true then ((limnerlaw04_awake.f k1).bind fun t404 => (some t404)) else (none)) = some r := H
            have A78 := Aside0.mk A780
            clear A780
            by_cases c79 : (t382 == t402 && (t383 == t403)) = true
            · rw [if_pos c79] at H
              have c79b0 : (t382 == t402 && (t383 == t403)) = true := c79
              (try (have c79b1 : decide (t382 = t402 && (t383 == t403)) = true := by simpa using c79))
              (try (have c79b2 : (t382 == t402 && (t383 == t403)) = true := by simpa using c79))
              clear c79
              replace H := Option.bind_eq_some_iff.mp H
              obtain ⟨t404, A800, H⟩ := H
              replace H : (some t404) = some r := H
              have A80 := Aside0.mk A800
              clear A800
              obtain rfl := Option.some.inj H
              have hnb81 := NB365_366.out
              have hnc81 := NB366_365.out
              have hnb82 := NB365_367.out
              have hnc82 := NB367_365.out
              have hnb83 := NB365_368.out
              have hnc83 := NB368_365.out
              have hcz84_0 : wr.cell? ⟨gb365, 0, none⟩ = some (.int .i64 a0_0) := (blk_cell BK365.out 0).trans rfl
              have hcz84_1 : wr.cell? ⟨gb365, 1, none⟩ = some (.int .i64 a0_1) := (blk_cell BK365.out 1).trans rfl
              have hcz84_2 : wr.cell? ⟨gb365, 2, none⟩ = some (.int .i64 a0_2) := (blk_cell BK365.out 2).trans rfl
              have hcz84_3 : wr.cell? ⟨gb365, 3, none⟩ = some (.int .i64 a0_3) := (blk_cell BK365.out 3).trans rfl
              have hfz84_0 := blk_frozen BK365.out 0
              have hfz84_1 := blk_frozen BK365.out 1
              have hfz84_2 := blk_frozen BK365.out 2
              have hfz84_3 := blk_frozen BK365.out 3
              have hnb85 := NB367_366.out
              have hnc85 := NB366_367.out
              have hnb86 := NB367_368.out
              have hnc86 := NB368_367.out
              have hcz87_0 : wr.cell? ⟨gb367, 0, none⟩ = some (.int .i64 0) := (blk_cell BK367.out 0).trans rfl
              have hcz87_1 : wr.cell? ⟨gb367, 1, none⟩ = some (.int .i64 0) := (blk_cell BK367.out 1).trans rfl
              have hcz87_2 : wr.cell? ⟨gb367, 2, none⟩ = some (.int .i64 0) := (blk_cell BK367.out 2).trans rfl
              have hcz87_3 : wr.cell? ⟨gb367, 3, none⟩ = some (.int .i64 0) := (blk_cell BK367.out 3).trans rfl
              have hcz87_4 : wr.cell? ⟨gb367, 4, none⟩ = some (.int .i64 0) := (blk_cell BK367.out 4).trans rfl
              have hcz87_5 : wr.cell? ⟨gb367, 5, none⟩ = some (.int .i64 0) := (blk_cell BK367.out 5).trans rfl
              have hfz87_0 := blk_frozen BK367.out 0
              have hfz87_1 := blk_frozen BK367.out 1
              have hfz87_2 := blk_frozen BK367.out 2
              have hfz87_3 := blk_frozen BK367.out 3
              have hfz87_4 := blk_frozen BK367.out 4
              have hfz87_5 := blk_frozen BK367.out 5
              have hnb88 := NB366_368.out
              have hnc88 := NB368_366.out
              have hcz89_0 : wr.cell? ⟨gb366, 0, none⟩ = some (.int .i64 a1_0) := (blk_cell BK366.out 0).trans rfl
              have hcz89_1 : wr.cell? ⟨gb366, 1, none⟩ = some (.int .i64 a1_1) := (blk_cell BK366.out 1).trans rfl
              have hcz89_2 : wr.cell? ⟨gb366, 2, none⟩ = some (.int .i64 a1_2) := (blk_cell BK366.out 2).trans rfl
              have hcz89_3 : wr.cell? ⟨gb366, 3, none⟩ = some (.int .i64 a1_3) := (blk_cell BK366.out 3).trans rfl
              have hfz89_0 := blk_frozen BK366.out 0
              have hfz89_1 := blk_frozen BK366.out 1
              have hfz89_2 := blk_frozen BK366.out 2
              have hfz89_3 := blk_frozen BK366.out 3
              have hcz90_0 : wr.cell? ⟨gb368, 0, none⟩ = some (.int .i64 0) := (blk_cell BK368.out 0).trans rfl
              have hcz90_1 : wr.cell? ⟨gb368, 1, none⟩ = some (.int .i64 0) := (blk_cell BK368.out 1).trans rfl
              have hcz90_2 : wr.cell? ⟨gb368, 2, none⟩ = some (.int .i64 0) := (blk_cell BK368.out 2).trans rfl
              have hcz90_3 : wr.cell? ⟨gb368, 3, none⟩ = some (.int .i64 0) := (blk_cell BK368.out 3).trans rfl
              have hcz90_4 : wr.cell? ⟨gb368, 4, none⟩ = some (.int .i64 0) := (blk_cell BK368.out 4).trans rfl
              have hcz90_5 : wr.cell? ⟨gb368, 5, none⟩ = some (.int .i64 0) := (blk_cell BK368.out 5).trans rfl
              have hfz90_0 := blk_frozen BK368.out 0
              have hfz90_1 := blk_frozen BK368.out 1
              have hfz90_2 := blk_frozen BK368.out 2
              have hfz90_3 := blk_frozen BK368.out 3
              have hfz90_4 := blk_frozen BK368.out 4
              have hfz90_5 := blk_frozen BK368.out 5
              try go_wp2_with (first | ((with_reducible refine gate_callee (f := 27) rfl ?_); refine goesL_ (some 70) rfl rfl Try.func27 (by kernel_rfl) rfl #[.agg #[.int .i64 (wrap64 (a0_0 * 65536)), .int .i64 (wrap64 (a0_1 * 65536)), .int .i64 (wrap64 (a0_2 * 65536)), .int .i64 (wrap64 (a0_3 * 65536)), .int .i64 0, .int .i64 0], .agg #[.int .i64 (wrap64 (a1_0 * 65536)), .int .i64 (wrap64 (a1_1 * 65536)), .int .i64 (wrap64 (a1_2 * 65536)), .int .i64 (wrap64 (a1_3 * 65536)), .int .i64 0, .int .i64 0]] rfl (by (try simp only [List.map_toArray, List.map_cons, List.map_nil]); first | done | rfl | (simp only [List.length_drop, List.length_take]; rfl)) ?_; (with_reducible refine (affine_Matrix_Then.calls k1 (wrap64 (a0_0 * 65536)) (wrap64 (a0_1 * 65536)) (wrap64 (a0_2 * 65536)) (wrap64 (a0_3 * 65536)) 0 0 (wrap64 (a1_0 * 65536)) (wrap64 (a1_1 * 65536)) (wrap64 (a1_2 * 65536)) (wrap64 (a1_3 * 65536)) 0 0 t373 t374 t375 t376 t377 t378 t379 _ A64.out).mono ?_); rintro e w91 ⟨rfl, hb⟩; refine ⟨_, rfl, ?_⟩; have n0_ := Aside0.mk (blk_below (g := gb365) (o := .cells #[.int .i64 a0_0, .int .i64 a0_1, .int .i64 a0_2, .int .i64 a0_3] 60 (0, 0)) (by (with_reducible repeat (first | refine blk_drewN ?_ _ | refine blk_drew ?_ | refine blk_alloc ?_ _)); refine blk_far ?_ NB365_368.out _; (with_reducible repeat (first | refine blk_drewN ?_ _ | refine blk_drew ?_ | refine blk_alloc ?_ _)); refine blk_far ?_ NB365_368.out _; (with_reducible repeat (first | refine blk_drewN ?_ _ | refine blk_drew ?_ | refine blk_alloc ?_ _)); refine blk_far ?_ NB365_368.out _; (with_reducible repeat (first | refine blk_drewN ?_ _ | refine blk_drew ?_ | refine blk_alloc ?_ _)); refine blk_far ?_ NB365_368.out _; (with_reducible repeat (first | refine blk_drewN ?_ _ | refine blk_drew ?_ | refine blk_alloc ?_ _)); refine blk_far ?_ NB365_368.out _; (with_reducible repeat (first | refine blk_drewN ?_ _ | refine blk_drew ?_ | refine blk_alloc ?_ _)); refine blk_far ?_ NB365_368.out _; (with_reducible repeat (first | refine blk_drewN ?_ _ | refine blk_drew ?_ | refine blk_alloc ?_ _)); refine blk_far ?_ NB365_367.out _; (with_reducible repeat (first | refine blk_drewN ?_ _ | refine blk_drew ?_ | refine blk_alloc ?_ _)); refine blk_far ?_ NB365_367.out _; (with_reducible repeat (first | refine blk_drewN ?_ _ | refine blk_drew ?_ | refine blk_alloc ?_ _)); refine blk_far ?_ NB365_367.out _; (with_reducible repeat (first | refine blk_drewN ?_ _ | refine blk_drew ?_ | refine blk_alloc ?_ _)); refine blk_far ?_ NB365_367.out _; (with_reducible repeat (first | refine blk_drewN ?_ _ | refine blk_drew ?_ | refine blk_alloc ?_ _)); refine blk_far ?_ NB365_367.out _; (with_reducible repeat (first | refine blk_drewN ?_ _ | refine blk_drew ?_ | refine blk_alloc ?_ _)); refine blk_far ?_ NB365_367.out _; (with_reducible repeat (first | refine blk_drewN ?_ _ | refine blk_drew ?_ | refine blk_alloc ?_ _)); exact BK365.out) hb); have n1_ := Aside0.mk (blk_below (g := gb366) (o := .cells #[.int .i64 a1_0, .int .i64 a1_1, .int .i64 a1_2, .int .i64 a1_3] 60 (0, 0)) (by (with_reducible repeat (first | refine blk_drewN ?_ _ | refine blk_drew ?_ | refine blk_alloc ?_ _)); refine blk_far ?_ NB366_368.out _; (with_reducible repeat (first | refine blk_drewN ?_ _ | refine blk_drew ?_ | refine blk_alloc ?_ _)); refine blk_far ?_ NB366_368.out _; (with_reducible repeat (first | refine blk_drewN ?_ _ | refine blk_drew ?_ | refine blk_alloc ?_ _)); refine blk_far ?_ NB366_368.out _; (with_reducible repeat (first | refine blk_drewN ?_ _ | refine blk_drew ?_ | refine blk_alloc ?_ _)); refine blk_far ?_ NB366_368.out _; (with_reducible repeat (first | refine blk_drewN ?_ _ | refine blk_drew ?_ | refine blk_alloc ?_ _)); refine blk_far ?_ NB366_368.out _; (with_reducible repeat (first | refine blk_drewN ?_ _ | refine blk_drew ?_ | refine blk_alloc ?_ _)); refine blk_far ?_ NB366_368.out _; (with_reducible repeat (first | refine blk_drewN ?_ _ | refine blk_drew ?_ | refine blk_alloc ?_ _)); refine blk_far ?_ NB366_367.out _; (with_reducible repeat (first | refine blk_drewN ?_ _ | refine blk_drew ?_ | refine blk_alloc ?_ _)); refine blk_far ?_ NB366_367.out _; (with_reducible repeat (first | refine blk_drewN ?_ _ | refine blk_drew ?_ | refine blk_alloc ?_ _)); refine blk_far ?_ NB366_367.out _; (with_reducible repeat (first | refine blk_drewN ?_ _ | refine blk_drew ?_ | refine blk_alloc ?_ _)); refine blk_far ?_ NB366_367.out _; (with_reducible repeat (first | refine blk_drewN ?_ _ | refine blk_drew ?_ | refine blk_alloc ?_ _)); refine blk_far ?_ NB366_367.out _; (with_reducible repeat (first | refine blk_drewN ?_ _ | refine blk_drew ?_ | refine blk_alloc ?_ _)); refine blk_far ?_ NB366_367.out _; (with_reducible repeat (first | refine blk_drewN ?_ _ | refine blk_drew ?_ | refine blk_alloc ?_ _)); exact BK366.out) hb); have n2_ := Aside0.mk (blk_below (g := gb367) (o := .cells #[.int .i64 (wrap64 (a0_0 * 65536)), .int .i64 (wrap64 (a0_1 * 65536)), .int .i64 (wrap64 (a0_2 * 65536)), .int .i64 (wrap64 (a0_3 * 65536)), .int .i64 0, .int .i64 0] 23 (0, 0)) (by (with_reducible repeat (first | refine blk_drewN ?_ _ | refine blk_drew ?_ | refine blk_alloc ?_ _)); refine blk_far ?_ NB367_368.out _; (with_reducible repeat (first | refine blk_drewN ?_ _ | refine blk_drew ?_ | refine blk_alloc ?_ _)); refine blk_far ?_ NB367_368.out _; (with_reducible repeat (first | refine blk_drewN ?_ _ | refine blk_drew ?_ | refine blk_alloc ?_ _)); refine blk_far ?_ NB367_368.out _; (with_reducible repeat (first | refine blk_drewN ?_ _ | refine blk_drew ?_ | refine blk_alloc ?_ _)); refine blk_far ?_ NB367_368.out _; (with_reducible repeat (first | refine blk_drewN ?_ _ | refine blk_drew ?_ | refine blk_alloc ?_ _)); refine blk_far ?_ NB367_368.out _; (with_reducible repeat (first | refine blk_drewN ?_ _ | refine blk_drew ?_ | refine blk_alloc ?_ _)); refine blk_far ?_ NB367_368.out _; (with_reducible repeat (first | refine blk_drewN ?_ _ | refine blk_drew ?_ | refine blk_alloc ?_ _)); refine blk_put (cs := #[.int .i64 (wrap64 (a0_0 * 65536)), .int .i64 (wrap64 (a0_1 * 65536)), .int .i64 (wrap64 (a0_2 * 65536)), .int .i64 (wrap64 (a0_3 * 65536)), .int .i64 0, .int .i64 0]) ?_ 5 _ rfl; (with_reducible repeat (first | refine blk_drewN ?_ _ | refine blk_drew ?_ | refine blk_alloc ?_ _)); refine blk_put (cs := #[.int .i64 (wrap64 (a0_0 * 65536)), .int .i64 (wrap64 (a0_1 * 65536)), .int .i64 (wrap64 (a0_2 * 65536)), .int .i64 (wrap64 (a0_3 * 65536)), .int .i64 0, .int .i64 0]) ?_ 4 _ rfl; (with_reducible repeat (first | refine blk_drewN ?_ _ | refine blk_drew ?_ | refine blk_alloc ?_ _)); refine blk_put (cs := #[.int .i64 (wrap64 (a0_0 * 65536)), .int .i64 (wrap64 (a0_1 * 65536)), .int .i64 (wrap64 (a0_2 * 65536)), .int .i64 0, .int .i64 0, .int .i64 0]) ?_ 3 _ rfl; (with_reducible repeat (first | refine blk_drewN ?_ _ | refine blk_drew ?_ | refine blk_alloc ?_ _)); refine blk_put (cs := #[.int .i64 (wrap64 (a0_0 * 65536)), .int .i64 (wrap64 (a0_1 * 65536)), .int .i64 0, .int .i64 0, .int .i64 0, .int .i64 0]) ?_ 2 _ rfl; (with_reducible repeat (first | refine blk_drewN ?_ _ | refine blk_drew ?_ | refine blk_alloc ?_ _)); refine blk_put (cs := #[.int .i64 (wrap64 (a0_0 * 65536)), .int .i64 0, .int .i64 0, .int .i64 0, .int .i64 0, .int .i64 0]) ?_ 1 _ rfl; (with_reducible repeat (first | refine blk_drewN ?_ _ | refine blk_drew ?_ | refine blk_alloc ?_ _)); refine blk_put (cs := #[.int .i64 0, .int .i64 0, .int .i64 0, .int .i64 0, .int .i64 0, .int .i64 0]) ?_ 0 _ rfl; (with_reducible repeat (first | refine blk_drewN ?_ _ | refine blk_drew ?_ | refine blk_alloc ?_ _)); exact BK367.out) hb); have n3_ := Aside0.mk (blk_below (g := gb368) (o := .cells #[.int .i64 (wrap64 (a1_0 * 65536)), .int .i64 (wrap64 (a1_1 * 65536)), .int .i64 (wrap64 (a1_2 * 65536)), .int .i64 (wrap64 (a1_3 * 65536)), .int .i64 0, .int .i64 0] 23 (0, 0)) (by (with_reducible repeat (first | refine blk_drewN ?_ _ | refine blk_drew ?_ | refine blk_alloc ?_ _)); refine blk_put (cs := #[.int .i64 (wrap64 (a1_0 * 65536)), .int .i64 (wrap64 (a1_1 * 65536)), .int .i64 (wrap64 (a1_2 * 65536)), .int .i64 (wrap64 (a1_3 * 65536)), .int .i64 0, .int .i64 0]) ?_ 5 _ rfl; (with_reducible repeat (first | refine blk_drewN ?_ _ | refine blk_drew ?_ | refine blk_alloc ?_ _)); refine blk_put (cs := #[.int .i64 (wrap64 (a1_0 * 65536)), .int .i64 (wrap64 (a1_1 * 65536)), .int .i64 (wrap64 (a1_2 * 65536)), .int .i64 (wrap64 (a1_3 * 65536)), .int .i64 0, .int .i64 0]) ?_ 4 _ rfl; (with_reducible repeat (first | refine blk_drewN ?_ _ | refine blk_drew ?_ | refine blk_alloc ?_ _)); refine blk_put (cs := #[.int .i64 (wrap64 (a1_0 * 65536)), .int .i64 (wrap64 (a1_1 * 65536)), .int .i64 (wrap64 (a1_2 * 65536)), .int .i64 0, .int .i64 0, .int .i64 0]) ?_ 3 _ rfl; (with_reducible repeat (first | refine blk_drewN ?_ _ | refine blk_drew ?_ | refine blk_alloc ?_ _)); refine blk_put (cs := #[.int .i64 (wrap64 (a1_0 * 65536)), .int .i64 (wrap64 (a1_1 * 65536)), .int .i64 0, .int .i64 0, .int .i64 0, .int .i64 0]) ?_ 2 _ rfl; (with_reducible repeat (first | refine blk_drewN ?_ _ | refine blk_drew ?_ | refine blk_alloc ?_ _)); refine blk_put (cs := #[.int .i64 (wrap64 (a1_0 * 65536)), .int .i64 0, .int .i64 0, .int .i64 0, .int .i64 0, .int .i64 0]) ?_ 1 _ rfl; (with_reducible repeat (first | refine blk_drewN ?_ _ | refine blk_drew ?_ | refine blk_alloc ?_ _)); refine blk_put (cs := #[.int .i64 0, .int .i64 0, .int .i64 0, .int .i64 0, .int .i64 0, .int .i64 0]) ?_ 0 _ rfl; (with_reducible repeat (first | refine blk_drewN ?_ _ | refine blk_drew ?_ | refine blk_alloc ?_ _)); refine blk_far ?_ NB368_367.out _; (with_reducible repeat (first | refine blk_drewN ?_ _ | refine blk_drew ?_ | refine blk_alloc ?_ _)); refine blk_far ?_ NB368_367.out _; (with_reducible repeat (first | refine blk_drewN ?_ _ | refine blk_drew ?_ | refine blk_alloc ?_ _)); refine blk_far ?_ NB368_367.out _; (with_reducible repeat (first | refine blk_drewN ?_ _ | refine blk_drew ?_ | refine blk_alloc ?_ _)); refine blk_far ?_ NB368_367.out _; (with_reducible repeat (first | refine blk_drewN ?_ _ | refine blk_drew ?_ | refine blk_alloc ?_ _)); refine blk_far ?_ NB368_367.out _; (with_reducible repeat (first | refine blk_drewN ?_ _ | refine blk_drew ?_ | refine blk_alloc ?_ _)); refine blk_far ?_ NB368_367.out _; (with_reducible repeat (first | refine blk_drewN ?_ _ | refine blk_drew ?_ | refine blk_alloc ?_ _)); exact BK368.out) hb); have n4_ := Aside0.mk (below_step (by repeat (first | (with_reducible first | exact HB.out | apply below_alloc | apply pw_below_drewN | apply below_drew1 | refine below_set ?_ GE365.out | refine below_set ?_ GE366.out | refine below_set ?_ GE367.out | refine below_set ?_ GE368.out) | exact HB.out)) hb); clear BK365; clear BK366; clear BK367; clear BK368; clear HB; have BK365 := n0_; have BK366 := n1_; have BK367 := n2_; have BK368 := n3_; have HB := n4_; clear n0_ n1_ n2_ n3_ n4_; (try clear hb); (try clear hb2); (try clear hk); (try clear hi)) | ((with_reducible refine gate_dst (N := 8) rfl ?_); refine box_event ?hg (N := 8) ?hd (cs := #[.int .i64 0, .int .i64 0, .int .i64 0, .int .i64 0, .int .i64 0, .int .i64 0]) (t := 23) ?hr ?_; (case hd => rfl); (case hg => rfl); (case hr => first | (go_simp; done) | (go_simp; rfl)); intro gb380 hg w92 hbox hb; have n0_ := Aside0.mk (blk_below (g := gb365) (o := .cells #[.int .i64 a0_0, .int .i64 a0_1, .int .i64 a0_2, .int .i64 a0_3] 60 (0, 0)) (by (with_reducible repeat (first | refine blk_drewN ?_ _ | refine blk_drew ?_ | refine blk_alloc ?_ _)); exact BK365.out) hb); have n1_ := Aside0.mk (blk_below (g := gb366) (o := .cells #[.int .i64 a1_0, .int .i64 a1_1, .int .i64 a1_2, .int .i64 a1_3] 60 (0, 0)) (by (with_reducible repeat (first | refine blk_drewN ?_ _ | refine blk_drew ?_ | refine blk_alloc ?_ _)); exact BK366.out) hb); have n2_ := Aside0.mk (blk_below (g := gb367) (o := .cells #[.int .i64 (wrap64 (a0_0 * 65536)), .int .i64 (wrap64 (a0_1 * 65536)), .int .i64 (wrap64 (a0_2 * 65536)), .int .i64 (wrap64 (a0_3 * 65536)), .int .i64 0, .int .i64 0] 23 (0, 0)) (by (with_reducible repeat (first | refine blk_drewN ?_ _ | refine blk_drew ?_ | refine blk_alloc ?_ _)); exact BK367.out) hb); have n3_ := Aside0.mk (blk_below (g := gb368) (o := .cells #[.int .i64 (wrap64 (a1_0 * 65536)), .int .i64 (wrap64 (a1_1 * 65536)), .int .i64 (wrap64 (a1_2 * 65536)), .int .i64 (wrap64 (a1_3 * 65536)), .int .i64 0, .int .i64 0] 23 (0, 0)) (by (with_reducible repeat (first | refine blk_drewN ?_ _ | refine blk_drew ?_ | refine blk_alloc ?_ _)); exact BK368.out) hb); have n4_ := Aside0.mk (below_step (by repeat (first | (with_reducible first | exact HB.out | apply below_alloc | apply pw_below_drewN | apply below_drew1 | refine below_set ?_ GE365.out | refine below_set ?_ GE366.out | refine below_set ?_ GE367.out | refine below_set ?_ GE368.out) | exact HB.out)) hb); have n5_ := Aside0.mk (hbox); have n6_ := Aside0.mk ((by rw [hg]; exact (below_size (by repeat (first | (with_reducible first | exact HB.out | apply below_alloc | apply pw_below_drewN | apply below_drew1 | refine below_set ?_ GE365.out | refine below_set ?_ GE366.out | refine below_set ?_ GE367.out | refine below_set ?_ GE368.out) | exact HB.out))) : w.heap.size ≤ gb380)); have n7_ := Aside0.mk ((by rw [hg]; exact (below_size (by repeat (first | (with_reducible first | exact HB.out | apply below_alloc | apply pw_below_drewN | apply below_drew1 | refine below_set ?_ GE365.out | refine below_set ?_ GE366.out | refine below_set ?_ GE367.out | refine below_set ?_ GE368.out) | exact HB.out))) : w.heap.size ≤ gb380)); have n8_ := Aside0.mk ((by rw [hg]; exact Nat.ne_of_lt (blk_lt (g := gb365) (o := .cells #[.int .i64 a0_0, .int .i64 a0_1, .int .i64 a0_2, .int .i64 a0_3] 60 (0, 0)) (by (with_reducible repeat (first | refine blk_drewN ?_ _ | refine blk_drew ?_ | refine blk_alloc ?_ _)); exact BK365.out)) : gb365 ≠ gb380)); have n9_ := Aside0.mk ((by rw [hg]; exact Nat.ne_of_gt (blk_lt (g := gb365) (o := .cells #[.int .i64 a0_0, .int .i64 a0_1, .int .i64 a0_2, .int .i64 a0_3] 60 (0, 0)) (by (with_reducible repeat (first | refine blk_drewN ?_ _ | refine blk_drew ?_ | refine blk_alloc ?_ _)); exact BK365.out)) : gb380 ≠ gb365)); have n10_ := Aside0.mk ((by rw [hg]; exact Nat.ne_of_lt (blk_lt (g := gb366) (o := .cells #[.int .i64 a1_0, .int .i64 a1_1, .int .i64 a1_2, .int .i64 a1_3] 60 (0, 0)) (by (with_reducible repeat (first | refine blk_drewN ?_ _ | refine blk_drew ?_ | refine blk_alloc ?_ _)); exact BK366.out)) : gb366 ≠ gb380)); have n11_ := Aside0.mk ((by rw [hg]; exact Nat.ne_of_gt (blk_lt (g := gb366) (o := .cells #[.int .i64 a1_0, .int .i64 a1_1, .int .i64 a1_2, .int .i64 a1_3] 60 (0, 0)) (by (with_reducible repeat (first | refine blk_drewN ?_ _ | refine blk_drew ?_ | refine blk_alloc ?_ _)); exact BK366.out)) : gb380 ≠ gb366)); have n12_ := Aside0.mk ((by rw [hg]; exact Nat.ne_of_lt (blk_lt (g := gb367) (o := .cells #[.int .i64 (wrap64 (a0_0 * 65536)), .int .i64 (wrap64 (a0_1 * 65536)), .int .i64 (wrap64 (a0_2 * 65536)), .int .i64 (wrap64 (a0_3 * 65536)), .int .i64 0, .int .i64 0] 23 (0, 0)) (by (with_reducible repeat (first | refine blk_drewN ?_ _ | refine blk_drew ?_ | refine blk_alloc ?_ _)); exact BK367.out)) : gb367 ≠ gb380)); have n13_ := Aside0.mk ((by rw [hg]; exact Nat.ne_of_gt (blk_lt (g := gb367) (o := .cells #[.int .i64 (wrap64 (a0_0 * 65536)), .int .i64 (wrap64 (a0_1 * 65536)), .int .i64 (wrap64 (a0_2 * 65536)), .int .i64 (wrap64 (a0_3 * 65536)), .int .i64 0, .int .i64 0] 23 (0, 0)) (by (with_reducible repeat (first | refine blk_drewN ?_ _ | refine blk_drew ?_ | refine blk_alloc ?_ _)); exact BK367.out)) : gb380 ≠ gb367)); have n14_ := Aside0.mk ((by rw [hg]; exact Nat.ne_of_lt (blk_lt (g := gb368) (o := .cells #[.int .i64 (wrap64 (a1_0 * 65536)), .int .i64 (wrap64 (a1_1 * 65536)), .int .i64 (wrap64 (a1_2 * 65536)), .int .i64 (wrap64 (a1_3 * 65536)), .int .i64 0, .int .i64 0] 23 (0, 0)) (by (with_reducible repeat (first | refine blk_drewN ?_ _ | refine blk_drew ?_ | refine blk_alloc ?_ _)); exact BK368.out)) : gb368 ≠ gb380)); have n15_ := Aside0.mk ((by rw [hg]; exact Nat.ne_of_gt (blk_lt (g := gb368) (o := .cells #[.int .i64 (wrap64 (a1_0 * 65536)), .int .i64 (wrap64 (a1_1 * 65536)), .int .i64 (wrap64 (a1_2 * 65536)), .int .i64 (wrap64 (a1_3 * 65536)), .int .i64 0, .int .i64 0] 23 (0, 0)) (by (with_reducible repeat (first | refine blk_drewN ?_ _ | refine blk_drew ?_ | refine blk_alloc ?_ _)); exact BK368.out)) : gb380 ≠ gb368)); clear BK365; clear BK366; clear BK367; clear BK368; clear HB; have BK365 := n0_; have BK366 := n1_; have BK367 := n2_; have BK368 := n3_; have HB := n4_; have BK380 := n5_; have GW380 := n6_; have GE380 := n7_; have NB365_380 := n8_; have NB380_365 := n9_; have NB366_380 := n10_; have NB380_366 := n11_; have NB367_380 := n12_; have NB380_367 := n13_; have NB368_380 := n14_; have NB380_368 := n15_; clear n0_ n1_ n2_ n3_ n4_ n5_ n6_ n7_ n8_ n9_ n10_ n11_ n12_ n13_ n14_ n15_; clear hb hbox hg; have hnb93 := NB380_365.out; have hnc93 := NB365_380.out; have hnb94 := NB380_366.out; have hnc94 := NB366_380.out; have hnb95 := NB380_367.out; have hnc95 := NB367_380.out; have hnb96 := NB380_368.out; have hnc96 := NB368_380.out; have hcz97_0 : w92.cell? ⟨gb380, 0, none⟩ = some (.int .i64 0) := (blk_cell BK380.out 0).trans rfl; have hcz97_1 : w92.cell? ⟨gb380, 1, none⟩ = some (.int .i64 0) := (blk_cell BK380.out 1).trans rfl; have hcz97_2 : w92.cell? ⟨gb380, 2, none⟩ = some (.int .i64 0) := (blk_cell BK380.out 2).trans rfl; have hcz97_3 : w92.cell? ⟨gb380, 3, none⟩ = some (.int .i64 0) := (blk_cell BK380.out 3).trans rfl; have hcz97_4 : w92.cell? ⟨gb380, 4, none⟩ = some (.int .i64 0) := (blk_cell BK380.out 4).trans rfl; have hcz97_5 : w92.cell? ⟨gb380, 5, none⟩ = some (.int .i64 0) := (blk_cell BK380.out 5).trans rfl; have hfz97_0 := blk_frozen BK380.out 0; have hfz97_1 := blk_frozen BK380.out 1; have hfz97_2 := blk_frozen BK380.out 2; have hfz97_3 := blk_frozen BK380.out 3; have hfz97_4 := blk_frozen BK380.out 4; have hfz97_5 := blk_frozen BK380.out 5; have hcz98_0 : w92.cell? ⟨gb367, 0, none⟩ = some (.int .i64 (wrap64 (a0_0 * 65536))) := (blk_cell BK367.out 0).trans rfl; have hcz98_1 : w92.cell? ⟨gb367, 1, none⟩ = some (.int .i64 (wrap64 (a0_1 * 65536))) := (blk_cell BK367.out 1).trans rfl; have hcz98_2 : w92.cell? ⟨gb367, 2, none⟩ = some (.int .i64 (wrap64 (a0_2 * 65536))) := (blk_cell BK367.out 2).trans rfl; have hcz98_3 : w92.cell? ⟨gb367, 3, none⟩ = some (.int .i64 (wrap64 (a0_3 * 65536))) := (blk_cell BK367.out 3).trans rfl; have hcz98_4 : w92.cell? ⟨gb367, 4, none⟩ = some (.int .i64 0) := (blk_cell BK367.out 4).trans rfl; have hcz98_5 : w92.cell? ⟨gb367, 5, none⟩ = some (.int .i64 0) := (blk_cell BK367.out 5).trans rfl; have hfz98_0 := blk_frozen BK367.out 0; have hfz98_1 := blk_frozen BK367.out 1; have hfz98_2 := blk_frozen BK367.out 2; have hfz98_3 := blk_frozen BK367.out 3; have hfz98_4 := blk_frozen BK367.out 4; have hfz98_5 := blk_frozen BK367.out 5) | ((with_reducible refine gate_callee (f := 33) rfl ?_); refine goesL_ (some 78) rfl rfl Try.func33 (by kernel_rfl) rfl #[.agg #[.int .i64 (wrap64 (a0_0 * 65536)), .int .i64 (wrap64 (a0_1 * 65536)), .int .i64 (wrap64 (a0_2 * 65536)), .int .i64 (wrap64 (a0_3 * 65536)), .int .i64 0, .int .i64 0]] rfl (by (try simp only [List.map_toArray, List.map_cons, List.map_nil]); first | done | rfl | (simp only [List.length_drop, List.length_take]; rfl)) ?_; (with_reducible refine (affine_Matrix_Det.calls (wrap64 (a0_0 * 65536)) (wrap64 (a0_1 * 65536)) (wrap64 (a0_2 * 65536)) (wrap64 (a0_3 * 65536)) 0 0 t382 t383 _ A66.out).mono ?_); rintro e w99 ⟨rfl, hb⟩; refine ⟨_, rfl, ?_⟩; have n0_ := Aside0.mk (blk_below (g := gb365) (o := .cells #[.int .i64 a0_0, .int .i64 a0_1, .int .i64 a0_2, .int .i64 a0_3] 60 (0, 0)) (by (with_reducible repeat (first | refine blk_drewN ?_ _ | refine blk_drew ?_ | refine blk_alloc ?_ _)); refine blk_far ?_ NB365_380.out _; (with_reducible repeat (first | refine blk_drewN ?_ _ | refine blk_drew ?_ | refine blk_alloc ?_ _)); refine blk_far ?_ NB365_380.out _; (with_reducible repeat (first | refine blk_drewN ?_ _ | refine blk_drew ?_ | refine blk_alloc ?_ _)); refine blk_far ?_ NB365_380.out _; (with_reducible repeat (first | refine blk_drewN ?_ _ | refine blk_drew ?_ | refine blk_alloc ?_ _)); refine blk_far ?_ NB365_380.out _; (with_reducible repeat (first | refine blk_drewN ?_ _ | refine blk_drew ?_ | refine blk_alloc ?_ _)); refine blk_far ?_ NB365_380.out _; (with_reducible repeat (first | refine blk_drewN ?_ _ | refine blk_drew ?_ | refine blk_alloc ?_ _)); refine blk_far ?_ NB365_380.out _; (with_reducible repeat (first | refine blk_drewN ?_ _ | refine blk_drew ?_ | refine blk_alloc ?_ _)); exact BK365.out) hb); have n1_ := Aside0.mk (blk_below (g := gb366) (o := .cells #[.int .i64 a1_0, .int .i64 a1_1, .int .i64 a1_2, .int .i64 a1_3] 60 (0, 0)) (by (with_reducible repeat (first | refine blk_drewN ?_ _ | refine blk_drew ?_ | refine blk_alloc ?_ _)); refine blk_far ?_ NB366_380.out _; (with_reducible repeat (first | refine blk_drewN ?_ _ | refine blk_drew ?_ | refine blk_alloc ?_ _)); refine blk_far ?_ NB366_380.out _; (with_reducible repeat (first | refine blk_drewN ?_ _ | refine blk_drew ?_ | refine blk_alloc ?_ _)); refine blk_far ?_ NB366_380.out _; (with_reducible repeat (first | refine blk_drewN ?_ _ | refine blk_drew ?_ | refine blk_alloc ?_ _)); refine blk_far ?_ NB366_380.out _; (with_reducible repeat (first | refine blk_drewN ?_ _ | refine blk_drew ?_ | refine blk_alloc ?_ _)); refine blk_far ?_ NB366_380.out _; (with_reducible repeat (first | refine blk_drewN ?_ _ | refine blk_drew ?_ | refine blk_alloc ?_ _)); refine blk_far ?_ NB366_380.out _; (with_reducible repeat (first | refine blk_drewN ?_ _ | refine blk_drew ?_ | refine blk_alloc ?_ _)); exact BK366.out) hb); have n2_ := Aside0.mk (blk_below (g := gb367) (o := .cells #[.int .i64 (wrap64 (a0_0 * 65536)), .int .i64 (wrap64 (a0_1 * 65536)), .int .i64 (wrap64 (a0_2 * 65536)), .int .i64 (wrap64 (a0_3 * 65536)), .int .i64 0, .int .i64 0] 23 (0, 0)) (by (with_reducible repeat (first | refine blk_drewN ?_ _ | refine blk_drew ?_ | refine blk_alloc ?_ _)); refine blk_far ?_ NB367_380.out _; (with_reducible repeat (first | refine blk_drewN ?_ _ | refine blk_drew ?_ | refine blk_alloc ?_ _)); refine blk_far ?_ NB367_380.out _; (with_reducible repeat (first | refine blk_drewN ?_ _ | refine blk_drew ?_ | refine blk_alloc ?_ _)); refine blk_far ?_ NB367_380.out _; (with_reducible repeat (first | refine blk_drewN ?_ _ | refine blk_drew ?_ | refine blk_alloc ?_ _)); refine blk_far ?_ NB367_380.out _; (with_reducible repeat (first | refine blk_drewN ?_ _ | refine blk_drew ?_ | refine blk_alloc ?_ _)); refine blk_far ?_ NB367_380.out _; (with_reducible repeat (first | refine blk_drewN ?_ _ | refine blk_drew ?_ | refine blk_alloc ?_ _)); refine blk_far ?_ NB367_380.out _; (with_reducible repeat (first | refine blk_drewN ?_ _ | refine blk_drew ?_ | refine blk_alloc ?_ _)); exact BK367.out) hb); have n3_ := Aside0.mk (blk_below (g := gb368) (o := .cells #[.int .i64 (wrap64 (a1_0 * 65536)), .int .i64 (wrap64 (a1_1 * 65536)), .int .i64 (wrap64 (a1_2 * 65536)), .int .i64 (wrap64 (a1_3 * 65536)), .int .i64 0, .int .i64 0] 23 (0, 0)) (by (with_reducible repeat (first | refine blk_drewN ?_ _ | refine blk_drew ?_ | refine blk_alloc ?_ _)); refine blk_far ?_ NB368_380.out _; (with_reducible repeat (first | refine blk_drewN ?_ _ | refine blk_drew ?_ | refine blk_alloc ?_ _)); refine blk_far ?_ NB368_380.out _; (with_reducible repeat (first | refine blk_drewN ?_ _ | refine blk_drew ?_ | refine blk_alloc ?_ _)); refine blk_far ?_ NB368_380.out _; (with_reducible repeat (first | refine blk_drewN ?_ _ | refine blk_drew ?_ | refine blk_alloc ?_ _)); refine blk_far ?_ NB368_380.out _; (with_reducible repeat (first | refine blk_drewN ?_ _ | refine blk_drew ?_ | refine blk_alloc ?_ _)); refine blk_far ?_ NB368_380.out _; (with_reducible repeat (first | refine blk_drewN ?_ _ | refine blk_drew ?_ | refine blk_alloc ?_ _)); refine blk_far ?_ NB368_380.out _; (with_reducible repeat (first | refine blk_drewN ?_ _ | refine blk_drew ?_ | refine blk_alloc ?_ _)); exact BK368.out) hb); have n4_ := Aside0.mk (blk_below (g := gb380) (o := .cells #[.int .i64 t373, .int .i64 t374, .int .i64 t375, .int .i64 t376, .int .i64 t377, .int .i64 t378] 23 (0, 0)) (by (with_reducible repeat (first | refine blk_drewN ?_ _ | refine blk_drew ?_ | refine blk_alloc ?_ _)); refine blk_put (cs := #[.int .i64 t373, .int .i64 t374, .int .i64 t375, .int .i64 t376, .int .i64 t377, .int .i64 0]) ?_ 5 _ rfl; (with_reducible repeat (first | refine blk_drewN ?_ _ | refine blk_drew ?_ | refine blk_alloc ?_ _)); refine blk_put (cs := #[.int .i64 t373, .int .i64 t374, .int .i64 t375, .int .i64 t376, .int .i64 0, .int .i64 0]) ?_ 4 _ rfl; (with_reducible repeat (first | refine blk_drewN ?_ _ | refine blk_drew ?_ | refine blk_alloc ?_ _)); refine blk_put (cs := #[.int .i64 t373, .int .i64 t374, .int .i64 t375, .int .i64 0, .int .i64 0, .int .i64 0]) ?_ 3 _ rfl; (with_reducible repeat (first | refine blk_drewN ?_ _ | refine blk_drew ?_ | refine blk_alloc ?_ _)); refine blk_put (cs := #[.int .i64 t373, .int .i64 t374, .int .i64 0, .int .i64 0, .int .i64 0, .int .i64 0]) ?_ 2 _ rfl; (with_reducible repeat (first | refine blk_drewN ?_ _ | refine blk_drew ?_ | refine blk_alloc ?_ _)); refine blk_put (cs := #[.int .i64 t373, .int .i64 0, .int .i64 0, .int .i64 0, .int .i64 0, .int .i64 0]) ?_ 1 _ rfl; (with_reducible repeat (first | refine blk_drewN ?_ _ | refine blk_drew ?_ | refine blk_alloc ?_ _)); refine blk_put (cs := #[.int .i64 0, .int .i64 0, .int .i64 0, .int .i64 0, .int .i64 0, .int .i64 0]) ?_ 0 _ rfl; (with_reducible repeat (first | refine blk_drewN ?_ _ | refine blk_drew ?_ | refine blk_alloc ?_ _)); exact BK380.out) hb); have n5_ := Aside0.mk (below_step (by repeat (first | (with_reducible first | exact HB.out | apply below_alloc | apply pw_below_drewN | apply below_drew1 | refine below_set ?_ GE365.out | refine below_set ?_ GE366.out | refine below_set ?_ GE367.out | refine below_set ?_ GE368.out | refine below_set ?_ GE380.out) | exact HB.out)) hb); clear BK365; clear BK366; clear BK367; clear BK368; clear BK380; clear HB; have BK365 := n0_; have BK366 := n1_; have BK367 := n2_; have BK368 := n3_; have BK380 := n4_; have HB := n5_; clear n0_ n1_ n2_ n3_ n4_ n5_; (try clear hb); (try clear hb2); (try clear hk); (try clear hi)) | ((with_reducible refine gate_callee (f := 34) rfl ?_); refine goesL_ (some 79) rfl rfl Try.func34 (by kernel_rfl) rfl #[.agg #[.int .i64 t382, .int .u64 t383], .int .i64 32] rfl (by (try simp only [List.map_toArray, List.map_cons, List.map_nil]); first | done | rfl | (simp only [List.length_drop, List.length_take]; rfl)) ?_; (with_reducible refine (wide_Num_Shr.calls t382 t383 32 t384 t385 _ A67.out).mono ?_); rintro e w100 ⟨rfl, hb⟩; refine ⟨_, rfl, ?_⟩; have n0_ := Aside0.mk (blk_below (g := gb365) (o := .cells #[.int .i64 a0_0, .int .i64 a0_1, .int .i64 a0_2, .int .i64 a0_3] 60 (0, 0)) (by (with_reducible repeat (first | refine blk_drewN ?_ _ | refine blk_drew ?_ | refine blk_alloc ?_ _)); exact BK365.out) hb); have n1_ := Aside0.mk (blk_below (g := gb366) (o := .cells #[.int .i64 a1_0, .int .i64 a1_1, .int .i64 a1_2, .int .i64 a1_3] 60 (0, 0)) (by (with_reducible repeat (first | refine blk_drewN ?_ _ | refine blk_drew ?_ | refine blk_alloc ?_ _)); exact BK366.out) hb); have n2_ := Aside0.mk (blk_below (g := gb367) (o := .cells #[.int .i64 (wrap64 (a0_0 * 65536)), .int .i64 (wrap64 (a0_1 * 65536)), .int .i64 (wrap64 (a0_2 * 65536)), .int .i64 (wrap64 (a0_3 * 65536)), .int .i64 0, .int .i64 0] 23 (0, 0)) (by (with_reducible repeat (first | refine blk_drewN ?_ _ | refine blk_drew ?_ | refine blk_alloc ?_ _)); exact BK367.out) hb); have n3_ := Aside0.mk (blk_below (g := gb368) (o := .cells #[.int .i64 (wrap64 (a1_0 * 65536)), .int .i64 (wrap64 (a1_1 * 65536)), .int .i64 (wrap64 (a1_2 * 65536)), .int .i64 (wrap64 (a1_3 * 65536)), .int .i64 0, .int .i64 0] 23 (0, 0)) (by (with_reducible repeat (first | refine blk_drewN ?_ _ | refine blk_drew ?_ | refine blk_alloc ?_ _)); exact BK368.out) hb); have n4_ := Aside0.mk (blk_below (g := gb380) (o := .cells #[.int .i64 t373, .int .i64 t374, .int .i64 t375, .int .i64 t376, .int .i64 t377, .int .i64 t378] 23 (0, 0)) (by (with_reducible repeat (first | refine blk_drewN ?_ _ | refine blk_drew ?_ | refine blk_alloc ?_ _)); exact BK380.out) hb); have n5_ := Aside0.mk (below_step (by repeat (first | (with_reducible first | exact HB.out | apply below_alloc | apply pw_below_drewN | apply below_drew1 | refine below_set ?_ GE365.out | refine below_set ?_ GE366.out | refine below_set ?_ GE367.out | refine below_set ?_ GE368.out | refine below_set ?_ GE380.out) | exact HB.out)) hb); clear BK365; clear BK366; clear BK367; clear BK368; clear BK380; clear HB; have BK365 := n0_; have BK366 := n1_; have BK367 := n2_; have BK368 := n3_; have BK380 := n4_; have HB := n5_; clear n0_ n1_ n2_ n3_ n4_ n5_; (try clear hb); (try clear hb2); (try clear hk); (try clear hi)) | ((with_reducible refine gate_callee (f := 35) rfl ?_); refine goesL_ (some 80) rfl rfl Try.func35 (by kernel_rfl) rfl #[.agg #[.int .i64 t384, .int .u64 t385]] rfl (by (try simp only [List.map_toArray, List.map_cons, List.map_nil]); first | done | rfl | (simp only [List.length_drop, List.length_take]; rfl)) ?_; (with_reducible refine (wide_Num_Int.calls t384 t385 t386 t387 _ A68.out).mono ?_); rintro e w101 ⟨rfl, hb⟩; refine ⟨_, rfl, ?_⟩; have n0_ := Aside0.mk (blk_below (g := gb365) (o := .cells #[.int .i64 a0_0, .int .i64 a0_1, .int .i64 a0_2, .int .i64 a0_3] 60 (0, 0)) (by (with_reducible repeat (first | refine blk_drewN ?_ _ | refine blk_drew ?_ | refine blk_alloc ?_ _)); exact BK365.out) hb); have n1_ := Aside0.mk (blk_below (g := gb366) (o := .cells #[.int .i64 a1_0, .int .i64 a1_1, .int .i64 a1_2, .int .i64 a1_3] 60 (0, 0)) (by (with_reducible repeat (first | refine blk_drewN ?_ _ | refine blk_drew ?_ | refine blk_alloc ?_ _)); exact BK366.out) hb); have n2_ := Aside0.mk (blk_below (g := gb367) (o := .cells #[.int .i64 (wrap64 (a0_0 * 65536)), .int .i64 (wrap64 (a0_1 * 65536)), .int .i64 (wrap64 (a0_2 * 65536)), .int .i64 (wrap64 (a0_3 * 65536)), .int .i64 0, .int .i64 0] 23 (0, 0)) (by (with_reducible repeat (first | refine blk_drewN ?_ _ | refine blk_drew ?_ | refine blk_alloc ?_ _)); exact BK367.out) hb); have n3_ := Aside0.mk (blk_below (g := gb368) (o := .cells #[.int .i64 (wrap64 (a1_0 * 65536)), .int .i64 (wrap64 (a1_1 * 65536)), .int .i64 (wrap64 (a1_2 * 65536)), .int .i64 (wrap64 (a1_3 * 65536)), .int .i64 0, .int .i64 0] 23 (0, 0)) (by (with_reducible repeat (first | refine blk_drewN ?_ _ | refine blk_drew ?_ | refine blk_alloc ?_ _)); exact BK368.out) hb); have n4_ := Aside0.mk (blk_below (g := gb380) (o := .cells #[.int .i64 t373, .int .i64 t374, .int .i64 t375, .int .i64 t376, .int .i64 t377, .int .i64 t378] 23 (0, 0)) (by (with_reducible repeat (first | refine blk_drewN ?_ _ | refine blk_drew ?_ | refine blk_alloc ?_ _)); exact BK380.out) hb); have n5_ := Aside0.mk (below_step (by repeat (first | (with_reducible first | exact HB.out | apply below_alloc | apply pw_below_drewN | apply below_drew1 | refine below_set ?_ GE365.out | refine below_set ?_ GE366.out | refine below_set ?_ GE367.out | refine below_set ?_ GE368.out | refine below_set ?_ GE380.out) | exact HB.out)) hb); clear BK365; clear BK366; clear BK367; clear BK368; clear BK380; clear HB; have BK365 := n0_; have BK366 := n1_; have BK367 := n2_; have BK368 := n3_; have BK380 := n4_; have HB := n5_; clear n0_ n1_ n2_ n3_ n4_ n5_; (try clear hb); (try clear hb2); (try clear hk); (try clear hi); have hcz102_0 : w101.cell? ⟨gb368, 0, none⟩ = some (.int .i64 (wrap64 (a1_0 * 65536))) := (blk_cell BK368.out 0).trans rfl; have hcz102_1 : w101.cell? ⟨gb368, 1, none⟩ = some (.int .i64 (wrap64 (a1_1 * 65536))) := (blk_cell BK368.out 1).trans rfl; have hcz102_2 : w101.cell? ⟨gb368, 2, none⟩ = some (.int .i64 (wrap64 (a1_2 * 65536))) := (blk_cell BK368.out 2).trans rfl; have hcz102_3 : w101.cell? ⟨gb368, 3, none⟩ = some (.int .i64 (wrap64 (a1_3 * 65536))) := (blk_cell BK368.out 3).trans rfl; have hcz102_4 : w101.cell? ⟨gb368, 4, none⟩ = some (.int .i64 0) := (blk_cell BK368.out 4).trans rfl; have hcz102_5 : w101.cell? ⟨gb368, 5, none⟩ = some (.int .i64 0) := (blk_cell BK368.out 5).trans rfl; have hfz102_0 := blk_frozen BK368.out 0; have hfz102_1 := blk_frozen BK368.out 1; have hfz102_2 := blk_frozen BK368.out 2; have hfz102_3 := blk_frozen BK368.out 3; have hfz102_4 := blk_frozen BK368.out 4; have hfz102_5 := blk_frozen BK368.out 5) | ((with_reducible refine gate_callee (f := 33) rfl ?_); refine goesL_ (some 85) rfl rfl Try.func33 (by kernel_rfl) rfl #[.agg #[.int .i64 (wrap64 (a1_0 * 65536)), .int .i64 (wrap64 (a1_1 * 65536)), .int .i64 (wrap64 (a1_2 * 65536)), .int .i64 (wrap64 (a1_3 * 65536)), .int .i64 0, .int .i64 0]] rfl (by (try simp only [List.map_toArray, List.map_cons, List.map_nil]); first | done | rfl | (simp only [List.length_drop, List.length_take]; rfl)) ?_; (with_reducible refine (affine_Matrix_Det.calls (wrap64 (a1_0 * 65536)) (wrap64 (a1_1 * 65536)) (wrap64 (a1_2 * 65536)) (wrap64 (a1_3 * 65536)) 0 0 t388 t389 _ A69.out).mono ?_); rintro e w103 ⟨rfl, hb⟩; refine ⟨_, rfl, ?_⟩; have n0_ := Aside0.mk (blk_below (g := gb365) (o := .cells #[.int .i64 a0_0, .int .i64 a0_1, .int .i64 a0_2, .int .i64 a0_3] 60 (0, 0)) (by (with_reducible repeat (first | refine blk_drewN ?_ _ | refine blk_drew ?_ | refine blk_alloc ?_ _)); exact BK365.out) hb); have n1_ := Aside0.mk (blk_below (g := gb366) (o := .cells #[.int .i64 a1_0, .int .i64 a1_1, .int .i64 a1_2, .int .i64 a1_3] 60 (0, 0)) (by (with_reducible repeat (first | refine blk_drewN ?_ _ | refine blk_drew ?_ | refine blk_alloc ?_ _)); exact BK366.out) hb); have n2_ := Aside0.mk (blk_below (g := gb367) (o := .cells #[.int .i64 (wrap64 (a0_0 * 65536)), .int .i64 (wrap64 (a0_1 * 65536)), .int .i64 (wrap64 (a0_2 * 65536)), .int .i64 (wrap64 (a0_3 * 65536)), .int .i64 0, .int .i64 0] 23 (0, 0)) (by (with_reducible repeat (first | refine blk_drewN ?_ _ | refine blk_drew ?_ | refine blk_alloc ?_ _)); exact BK367.out) hb); have n3_ := Aside0.mk (blk_below (g := gb368) (o := .cells #[.int .i64 (wrap64 (a1_0 * 65536)), .int .i64 (wrap64 (a1_1 * 65536)), .int .i64 (wrap64 (a1_2 * 65536)), .int .i64 (wrap64 (a1_3 * 65536)), .int .i64 0, .int .i64 0] 23 (0, 0)) (by (with_reducible repeat (first | refine blk_drewN ?_ _ | refine blk_drew ?_ | refine blk_alloc ?_ _)); exact BK368.out) hb); have n4_ := Aside0.mk (blk_below (g := gb380) (o := .cells #[.int .i64 t373, .int .i64 t374, .int .i64 t375, .int .i64 t376, .int .i64 t377, .int .i64 t378] 23 (0, 0)) (by (with_reducible repeat (first | refine blk_drewN ?_ _ | refine blk_drew ?_ | refine blk_alloc ?_ _)); exact BK380.out) hb); have n5_ := Aside0.mk (below_step (by repeat (first | (with_reducible first | exact HB.out | apply below_alloc | apply pw_below_drewN | apply below_drew1 | refine below_set ?_ GE365.out | refine below_set ?_ GE366.out | refine below_set ?_ GE367.out | refine below_set ?_ GE368.out | refine below_set ?_ GE380.out) | exact HB.out)) hb); clear BK365; clear BK366; clear BK367; clear BK368; clear BK380; clear HB; have BK365 := n0_; have BK366 := n1_; have BK367 := n2_; have BK368 := n3_; have BK380 := n4_; have HB := n5_; clear n0_ n1_ n2_ n3_ n4_ n5_; (try clear hb); (try clear hb2); (try clear hk); (try clear hi)) | ((with_reducible refine gate_callee (f := 34) rfl ?_); refine goesL_ (some 86) rfl rfl Try.func34 (by kernel_rfl) rfl #[.agg #[.int .i64 t388, .int .u64 t389], .int .i64 32] rfl (by (try simp only [List.map_toArray, List.map_cons, List.map_nil]); first | done | rfl | (simp only [List.length_drop, List.length_take]; rfl)) ?_; (with_reducible refine (wide_Num_Shr.calls t388 t389 32 t390 t391 _ A70.out).mono ?_); rintro e w104 ⟨rfl, hb⟩; refine ⟨_, rfl, ?_⟩; have n0_ := Aside0.mk (blk_below (g := gb365) (o := .cells #[.int .i64 a0_0, .int .i64 a0_1, .int .i64 a0_2, .int .i64 a0_3] 60 (0, 0)) (by (with_reducible repeat (first | refine blk_drewN ?_ _ | refine blk_drew ?_ | refine blk_alloc ?_ _)); exact BK365.out) hb); have n1_ := Aside0.mk (blk_below (g := gb366) (o := .cells #[.int .i64 a1_0, .int .i64 a1_1, .int .i64 a1_2, .int .i64 a1_3] 60 (0, 0)) (by (with_reducible repeat (first | refine blk_drewN ?_ _ | refine blk_drew ?_ | refine blk_alloc ?_ _)); exact BK366.out) hb); have n2_ := Aside0.mk (blk_below (g := gb367) (o := .cells #[.int .i64 (wrap64 (a0_0 * 65536)), .int .i64 (wrap64 (a0_1 * 65536)), .int .i64 (wrap64 (a0_2 * 65536)), .int .i64 (wrap64 (a0_3 * 65536)), .int .i64 0, .int .i64 0] 23 (0, 0)) (by (with_reducible repeat (first | refine blk_drewN ?_ _ | refine blk_drew ?_ | refine blk_alloc ?_ _)); exact BK367.out) hb); have n3_ := Aside0.mk (blk_below (g := gb368) (o := .cells #[.int .i64 (wrap64 (a1_0 * 65536)), .int .i64 (wrap64 (a1_1 * 65536)), .int .i64 (wrap64 (a1_2 * 65536)), .int .i64 (wrap64 (a1_3 * 65536)), .int .i64 0, .int .i64 0] 23 (0, 0)) (by (with_reducible repeat (first | refine blk_drewN ?_ _ | refine blk_drew ?_ | refine blk_alloc ?_ _)); exact BK368.out) hb); have n4_ := Aside0.mk (blk_below (g := gb380) (o := .cells #[.int .i64 t373, .int .i64 t374, .int .i64 t375, .int .i64 t376, .int .i64 t377, .int .i64 t378] 23 (0, 0)) (by (with_reducible repeat (first | refine blk_drewN ?_ _ | refine blk_drew ?_ | refine blk_alloc ?_ _)); exact BK380.out) hb); have n5_ := Aside0.mk (below_step (by repeat (first | (with_reducible first | exact HB.out | apply below_alloc | apply pw_below_drewN | apply below_drew1 | refine below_set ?_ GE365.out | refine below_set ?_ GE366.out | refine below_set ?_ GE367.out | refine below_set ?_ GE368.out | refine below_set ?_ GE380.out) | exact HB.out)) hb); clear BK365; clear BK366; clear BK367; clear BK368; clear BK380; clear HB; have BK365 := n0_; have BK366 := n1_; have BK367 := n2_; have BK368 := n3_; have BK380 := n4_; have HB := n5_; clear n0_ n1_ n2_ n3_ n4_ n5_; (try clear hb); (try clear hb2); (try clear hk); (try clear hi)) | ((with_reducible refine gate_callee (f := 35) rfl ?_); refine goesL_ (some 87) rfl rfl Try.func35 (by kernel_rfl) rfl #[.agg #[.int .i64 t390, .int .u64 t391]] rfl (by (try simp only [List.map_toArray, List.map_cons, List.map_nil]); first | done | rfl | (simp only [List.length_drop, List.length_take]; rfl)) ?_; (with_reducible refine (wide_Num_Int.calls t390 t391 t392 t393 _ A71.out).mono ?_); rintro e w105 ⟨rfl, hb⟩; refine ⟨_, rfl, ?_⟩; have n0_ := Aside0.mk (blk_below (g := gb365) (o := .cells #[.int .i64 a0_0, .int .i64 a0_1, .int .i64 a0_2, .int .i64 a0_3] 60 (0, 0)) (by (with_reducible repeat (first | refine blk_drewN ?_ _ | refine blk_drew ?_ | refine blk_alloc ?_ _)); exact BK365.out) hb); have n1_ := Aside0.mk (blk_below (g := gb366) (o := .cells #[.int .i64 a1_0, .int .i64 a1_1, .int .i64 a1_2, .int .i64 a1_3] 60 (0, 0)) (by (with_reducible repeat (first | refine blk_drewN ?_ _ | refine blk_drew ?_ | refine blk_alloc ?_ _)); exact BK366.out) hb); have n2_ := Aside0.mk (blk_below (g := gb367) (o := .cells #[.int .i64 (wrap64 (a0_0 * 65536)), .int .i64 (wrap64 (a0_1 * 65536)), .int .i64 (wrap64 (a0_2 * 65536)), .int .i64 (wrap64 (a0_3 * 65536)), .int .i64 0, .int .i64 0] 23 (0, 0)) (by (with_reducible repeat (first | refine blk_drewN ?_ _ | refine blk_drew ?_ | refine blk_alloc ?_ _)); exact BK367.out) hb); have n3_ := Aside0.mk (blk_below (g := gb368) (o := .cells #[.int .i64 (wrap64 (a1_0 * 65536)), .int .i64 (wrap64 (a1_1 * 65536)), .int .i64 (wrap64 (a1_2 * 65536)), .int .i64 (wrap64 (a1_3 * 65536)), .int .i64 0, .int .i64 0] 23 (0, 0)) (by (with_reducible repeat (first | refine blk_drewN ?_ _ | refine blk_drew ?_ | refine blk_alloc ?_ _)); exact BK368.out) hb); have n4_ := Aside0.mk (blk_below (g := gb380) (o := .cells #[.int .i64 t373, .int .i64 t374, .int .i64 t375, .int .i64 t376, .int .i64 t377, .int .i64 t378] 23 (0, 0)) (by (with_reducible repeat (first | refine blk_drewN ?_ _ | refine blk_drew ?_ | refine blk_alloc ?_ _)); exact BK380.out) hb); have n5_ := Aside0.mk (below_step (by repeat (first | (with_reducible first | exact HB.out | apply below_alloc | apply pw_below_drewN | apply below_drew1 | refine below_set ?_ GE365.out | refine below_set ?_ GE366.out | refine below_set ?_ GE367.out | refine below_set ?_ GE368.out | refine below_set ?_ GE380.out) | exact HB.out)) hb); clear BK365; clear BK366; clear BK367; clear BK368; clear BK380; clear HB; have BK365 := n0_; have BK366 := n1_; have BK367 := n2_; have BK368 := n3_; have BK380 := n4_; have HB := n5_; clear n0_ n1_ n2_ n3_ n4_ n5_; (try clear hb); (try clear hb2); (try clear hk); (try clear hi)))
              have n0_ := Aside0.mk (blk_drew BK365.out)
              have n1_ := Aside0.mk (blk_drew BK366.out)
              have n2_ := Aside0.mk (blk_drew BK367.out)
              have n3_ := Aside0.mk (blk_drew BK368.out)
              have n4_ := Aside0.mk (blk_drew BK380.out)
              have n5_ := Aside0.mk (below_drew1 HB.out)
              clear BK365
              clear BK366
              clear BK367
              clear BK368
              clear BK380
              clear HB
              have BK365 := n0_
              have BK366 := n1_
              have BK367 := n2_
              have BK368 := n3_
              have BK380 := n4_
              have HB := n5_
              clear n0_ n1_ n2_ n3_ n4_ n5_
              refine start_ (n := 28) (S := fun w' => w'.cell? ⟨gb380, 0, none⟩ = some (.int .i64 t373) ∧ w'.cell? ⟨gb380, 1, none⟩ = some (.int .i64 t374) ∧ w'.cell? ⟨gb380, 2, none⟩ = some (.int .i64 t375) ∧ w'.cell? ⟨gb380, 3, none⟩ = some (.int .i64 t376) ∧ w'.cell? ⟨gb380, 4, none⟩ = some (.int .i64 t377) ∧ w'.cell? ⟨gb380, 5, none⟩ = some (.int .i64 t378) ∧ w'.cell? ⟨gb367, 0, none⟩ = some (.int .i64 (wrap64 (a0_0 * 65536))) ∧ w'.cell? ⟨gb367, 1, none⟩ = some (.int .i64 (wrap64 (a0_1 * 65536))) ∧ w'.cell? ⟨gb367, 2, none⟩ = some (.int .i64 (wrap64 (a0_2 * 65536))) ∧ w'.cell? ⟨gb367, 3, none⟩ = some (.int .i64 (wrap64 (a0_3 * 65536))) ∧ w'.cell? ⟨gb367, 4, none⟩ = some (.int .i64 0) ∧ w'.cell? ⟨gb367, 5, none⟩ = some (.int .i64 0) ∧ w'.cell? ⟨gb365, 0, none⟩ = some (.int .i64 a0_0) ∧ w'.cell? ⟨gb365, 1, none⟩ = some (.int .i64 a0_1) ∧ w'.cell? ⟨gb365, 2, none⟩ = some (.int .i64 a0_2) ∧ w'.cell? ⟨gb365, 3, none⟩ = some (.int .i64 a0_3)) (ds := []) #[false, false, false, false, false, false, false, false, false, false, false, false, false, false, false, false, false, false, false, false, false, false, false, false, false, false, false, false] (by kernel_rfl) rfl rfl ⟨(blk_cell BK380.out 0).trans rfl, (blk_cell BK380.out 1).trans rfl, (blk_cell BK380.out 2).trans rfl, (blk_cell BK380.out 3).trans rfl, (blk_cell BK380.out 4).trans rfl, (blk_cell BK380.out 5).trans rfl, (blk_cell BK367.out 0).trans rfl, (blk_cell BK367.out 1).trans rfl, (blk_cell BK367.out 2).trans rfl, (blk_cell BK367.out 3).trans rfl, (blk_cell BK367.out 4).trans rfl, (blk_cell BK367.out 5).trans rfl, (blk_cell BK365.out 0).trans rfl, (blk_cell BK365.out 1).trans rfl, (blk_cell BK365.out 2).trans rfl, (blk_cell BK365.out 3).trans rfl⟩ (fun hHeld => ?_); refine with_tabW limnerlaw04_AffineDets.tab15 limnerlaw04_AffineDets.bits15 (fun HT_ HW_ => ?_)
              generalize w105.drew = w106 at BK365 BK366 BK367 BK368 BK380 HB hHeld ⊢
              refine pure_ (i := 3) (N := some 93) (v := ?_) (a' := ?_) #[false, false, false, true, false, false, false, false, false, false, false, false, false, false, false, false, false, false, false, false, false, false, false, false, false, false, false, false] rfl rfl (any_of HT_.out (by kernel_rfl)) (fun _ _ _ h => h) (Or.inl ⟨by rfl, ?_⟩) ?_ ?_
              rotate_left
              · intro w'
                go_simp
                with_reducible rfl
              rotate_left
              · simp only [Act.put, List.setIfInBounds_toArray, List.set_cons_zero, List.set_cons_succ, i64_w, i32_w]
                rfl
              refine pure_ (i := 4) (N := some 94) (v := ?_) (a' := ?_) #[false, false, false, true, true, false, false, false, false, false, false, false, false, false, false, false, false, false, false, false, false, false, false, false, false, false, false, false] rfl rfl (any_of HT_.out (by kernel_rfl)) (fun _ _ _ h => h) (Or.inl ⟨by rfl, ?_⟩) ?_ ?_
              rotate_left
              · intro w'
                go_simp
                with_reducible rfl
              rotate_left
              · simp only [Act.put, List.setIfInBounds_toArray, List.set_cons_zero, List.set_cons_succ, i64_w, i32_w]
                rfl
              refine take_ (i := 0) (N := some 90) (v := ?_) (a' := ?_) #[true, false, false, true, true, false, false, false, false, false, false, false, false, false, false, false, false, false, false, false, false, false, false, false, false, false, false, false] rfl rfl (take_ofW HT_.out HW_.out (by kernel_rfl)) (fun _ _ _ h => h) (Or.inl ⟨by rfl, ?_⟩) hHeld ?_ ?_
              rotate_left
              · rintro w' ⟨s0, s1, s2, s3, s4, s5, s6, s7, s8, s9, s10, s11, s12, s13, s14, s15⟩
                go_simp
                with_reducible rfl
              rotate_left
              · simp only [Act.put, List.setIfInBounds_toArray, List.set_cons_zero, List.set_cons_succ, i64_w, i32_w]
                rfl
              refine one_ (i := 1) (N := some 91) #[true, true, false, true, true, false, false, false, false, false, false, false, false, false, false, false, false, false, false, false, false, false, false, false, false, false, false, false] rfl rfl (one_of HT_.out (by kernel_rfl)) (by decide) (fun K hK => ?_)
              refine goes_ Try.func33 (by kernel_rfl) rfl #[.agg #[.int .i64 t373, .int .i64 t374, .int .i64 t375, .int .i64 t376, .int .i64 t377, .int .i64 t378]] (by rfl) rfl rfl (by (try simp only [List.map_toArray, List.map_cons, List.map_nil]); first | done | rfl | (simp only [List.length_drop, List.length_take]; rfl)) ?_
              with_reducible refine (affine_Matrix_Det.calls t373 t374 t375 t376 t377 t378 t394 t395 _ A72.out).mono ?_
              rintro e w107 ⟨rfl, hb⟩
              refine ⟨_, rfl, ?_⟩
              have n0_ := Aside0.mk (blk_below (g := gb365) (o := .cells #[.int .i64 a0_0, .int .i64 a0_1, .int .i64 a0_2, .int .i64 a0_3] 60 (0, 0)) (by (with_reducible repeat (first | refine blk_drewN ?_ _ | refine blk_drew ?_ | refine blk_alloc ?_ _)); exact BK365.out) hb)
              have n1_ := Aside0.mk (blk_below (g := gb366) (o := .cells #[.int .i64 a1_0, .int .i64 a1_1, .int .i64 a1_2, .int .i64 a1_3] 60 (0, 0)) (by (with_reducible repeat (first | refine blk_drewN ?_ _ | refine blk_drew ?_ | refine blk_alloc ?_ _)); exact BK366.out) hb)
              have n2_ := Aside0.mk (blk_below (g := gb367) (o := .cells #[.int .i64 (wrap64 (a0_0 * 65536)), .int .i64 (wrap64 (a0_1 * 65536)), .int .i64 (wrap64 (a0_2 * 65536)), .int .i64 (wrap64 (a0_3 * 65536)), .int .i64 0, .int .i64 0] 23 (0, 0)) (by (with_reducible repeat (first | refine blk_drewN ?_ _ | refine blk_drew ?_ | refine blk_alloc ?_ _)); exact BK367.out) hb)
              have n3_ := Aside0.mk (blk_below (g := gb368) (o := .cells #[.int .i64 (wrap64 (a1_0 * 65536)), .int .i64 (wrap64 (a1_1 * 65536)), .int .i64 (wrap64 (a1_2 * 65536)), .int .i64 (wrap64 (a1_3 * 65536)), .int .i64 0, .int .i64 0] 23 (0, 0)) (by (with_reducible repeat (first | refine blk_drewN ?_ _ | refine blk_drew ?_ | refine blk_alloc ?_ _)); exact BK368.out) hb)
              have n4_ := Aside0.mk (blk_below (g := gb380) (o := .cells #[.int .i64 t373, .int .i64 t374, .int .i64 t375, .int .i64 t376, .int .i64 t377, .int .i64 t378] 23 (0, 0)) (by (with_reducible repeat (first | refine blk_drewN ?_ _ | refine blk_drew ?_ | refine blk_alloc ?_ _)); exact BK380.out) hb)
              have n5_ := Aside0.mk (below_step (by repeat (first | (with_reducible first | exact HB.out | apply below_alloc | apply pw_below_drewN | apply below_drew1 | refine below_set ?_ GE365.out | refine below_set ?_ GE366.out | refine below_set ?_ GE367.out | refine below_set ?_ GE368.out | refine below_set ?_ GE380.out) | exact HB.out)) hb)
              clear BK365
              clear BK366
              clear BK367
              clear BK368
              clear BK380
              clear HB
              have BK365 := n0_
              have BK366 := n1_
              have BK367 := n2_
              have BK368 := n3_
              have BK380 := n4_
              have HB := n5_
              clear n0_ n1_ n2_ n3_ n4_ n5_
              (try clear hb)
              (try clear hb2)
              (try clear hk)
              (try clear hi)
              refine hK.out _ _ ⟨(blk_cell BK380.out 0).trans rfl, (blk_cell BK380.out 1).trans rfl, (blk_cell BK380.out 2).trans rfl, (blk_cell BK380.out 3).trans rfl, (blk_cell BK380.out 4).trans rfl, (blk_cell BK380.out 5).trans rfl, (blk_cell BK367.out 0).trans rfl, (blk_cell BK367.out 1).trans rfl, (blk_cell BK367.out 2).trans rfl, (blk_cell BK367.out 3).trans rfl, (blk_cell BK367.out 4).trans rfl, (blk_cell BK367.out 5).trans rfl, (blk_cell BK365.out 0).trans rfl, (blk_cell BK365.out 1).trans rfl, (blk_cell BK365.out 2).trans rfl, (blk_cell BK365.out 3).trans rfl⟩ (fun hHeld => ?_)
              clear hK K
              refine norm_ (a' := ?_) ?_ ?_
              rotate_left
              · show Act.put _ (some 91) _ = _
                simp only [Act.put, List.setIfInBounds_toArray, List.set_cons_zero, List.set_cons_succ, i64_w, i32_w]
                rfl
              refine one_ (i := 2) (N := some 92) #[true, true, true, true, true, false, false, false, false, false, false, false, false, false, false, false, false, false, false, false, false, false, false, false, false, false, false, false] rfl rfl (one_of HT_.out (by kernel_rfl)) (by decide) (fun K hK => ?_)
              refine goes_ Try.func34 (by kernel_rfl) rfl #[.agg #[.int .i64 t394, .int .u64 t395], .int .i64 32] (by rfl) rfl rfl (by (try simp only [List.map_toArray, List.map_cons, List.map_nil]); first | done | rfl | (simp only [List.length_drop, List.length_take]; rfl)) ?_
              with_reducible refine (wide_Num_Shr.calls t394 t395 32 t396 t397 _ A73.out).mono ?_
              rintro e w108 ⟨rfl, hb⟩
              refine ⟨_, rfl, ?_⟩
              have n0_ := Aside0.mk (blk_below (g := gb365) (o := .cells #[.int .i64 a0_0, .int .i64 a0_1, .int .i64 a0_2, .int .i64 a0_3] 60 (0, 0)) (by (with_reducible repeat (first | refine blk_drewN ?_ _ | refine blk_drew ?_ | refine blk_alloc ?_ _)); exact BK365.out) hb)
              have n1_ := Aside0.mk (blk_below (g := gb366) (o := .cells #[.int .i64 a1_0, .int .i64 a1_1, .int .i64 a1_2, .int .i64 a1_3] 60 (0, 0)) (by (with_reducible repeat (first | refine blk_drewN ?_ _ | refine blk_drew ?_ | refine blk_alloc ?_ _)); exact BK366.out) hb)
              have n2_ := Aside0.mk (blk_below (g := gb367) (o := .cells #[.int .i64 (wrap64 (a0_0 * 65536)), .int .i64 (wrap64 (a0_1 * 65536)), .int .i64 (wrap64 (a0_2 * 65536)), .int .i64 (wrap64 (a0_3 * 65536)), .int .i64 0, .int .i64 0] 23 (0, 0)) (by (with_reducible repeat (first | refine blk_drewN ?_ _ | refine blk_drew ?_ | refine blk_alloc ?_ _)); exact BK367.out) hb)
              have n3_ := Aside0.mk (blk_below (g := gb368) (o := .cells #[.int .i64 (wrap64 (a1_0 * 65536)), .int .i64 (wrap64 (a1_1 * 65536)), .int .i64 (wrap64 (a1_2 * 65536)), .int .i64 (wrap64 (a1_3 * 65536)), .int .i64 0, .int .i64 0] 23 (0, 0)) (by (with_reducible repeat (first | refine blk_drewN ?_ _ | refine blk_drew ?_ | refine blk_alloc ?_ _)); exact BK368.out) hb)
              have n4_ := Aside0.mk (blk_below (g := gb380) (o := .cells #[.int .i64 t373, .int .i64 t374, .int .i64 t375, .int .i64 t376, .int .i64 t377, .int .i64 t378] 23 (0, 0)) (by (with_reducible repeat (first | refine blk_drewN ?_ _ | refine blk_drew ?_ | refine blk_alloc ?_ _)); exact BK380.out) hb)
              have n5_ := Aside0.mk (below_step (by repeat (first | (with_reducible first | exact HB.out | apply below_alloc | apply pw_below_drewN | apply below_drew1 | refine below_set ?_ GE365.out | refine below_set ?_ GE366.out | refine below_set ?_ GE367.out | refine below_set ?_ GE368.out | refine below_set ?_ GE380.out) | exact HB.out)) hb)
              clear BK365
              clear BK366
              clear BK367
              clear BK368
              clear BK380
              clear HB
              have BK365 := n0_
              have BK366 := n1_
              have BK367 := n2_
              have BK368 := n3_
              have BK380 := n4_
              have HB := n5_
              clear n0_ n1_ n2_ n3_ n4_ n5_
              (try clear hb)
              (try clear hb2)
              (try clear hk)
              (try clear hi)
              refine hK.out _ _ ⟨(blk_cell BK380.out 0).trans rfl, (blk_cell BK380.out 1).trans rfl, (blk_cell BK380.out 2).trans rfl, (blk_cell BK380.out 3).trans rfl, (blk_cell BK380.out 4).trans rfl, (blk_cell BK380.out 5).trans rfl, (blk_cell BK367.out 0).trans rfl, (blk_cell BK367.out 1).trans rfl, (blk_cell BK367.out 2).trans rfl, (blk_cell BK367.out 3).trans rfl, (blk_cell BK367.out 4).trans rfl, (blk_cell BK367.out 5).trans rfl, (blk_cell BK365.out 0).trans rfl, (blk_cell BK365.out 1).trans rfl, (blk_cell BK365.out 2).trans rfl, (blk_cell BK365.out 3).trans rfl⟩ (fun hHeld => ?_)
              clear hK K
              refine norm_ (a' := ?_) ?_ ?_
              rotate_left
              · show Act.put _ (some 92) _ = _
                simp only [Act.put, List.setIfInBounds_toArray, List.set_cons_zero, List.set_cons_succ, i64_w, i32_w]
                rfl
              refine one_ (i := 5) (N := some 95) #[true, true, true, true, true, true, false, false, false, false, false, false, false, false, false, false, false, false, false, false, false, false, false, false, false, false, false, false] rfl rfl (one_of HT_.out (by kernel_rfl)) (by decide) (fun K hK => ?_)
              refine goes_ Try.func36 (by kernel_rfl) rfl #[.int .i64 t386, .int .i64 t392] (by rfl) rfl rfl (by (try simp only [List.map_toArray, List.map_cons, List.map_nil]); first | done | rfl | (simp only [List.length_drop, List.length_take]; rfl)) ?_
              with_reducible refine (wide_Mul.calls t386 t392 t398 t399 _ A74.out).mono ?_
              rintro e w109 ⟨rfl, hb⟩
              refine ⟨_, rfl, ?_⟩
              have n0_ := Aside0.mk (blk_below (g := gb365) (o := .cells #[.int .i64 a0_0, .int .i64 a0_1, .int .i64 a0_2, .int .i64 a0_3] 60 (0, 0)) (by (with_reducible repeat (first | refine blk_drewN ?_ _ | refine blk_drew ?_ | refine blk_alloc ?_ _)); exact BK365.out) hb)
              have n1_ := Aside0.mk (blk_below (g := gb366) (o := .cells #[.int .i64 a1_0, .int .i64 a1_1, .int .i64 a1_2, .int .i64 a1_3] 60 (0, 0)) (by (with_reducible repeat (first | refine blk_drewN ?_ _ | refine blk_drew ?_ | refine blk_alloc ?_ _)); exact BK366.out) hb)
              have n2_ := Aside0.mk (blk_below (g := gb367) (o := .cells #[.int .i64 (wrap64 (a0_0 * 65536)), .int .i64 (wrap64 (a0_1 * 65536)), .int .i64 (wrap64 (a0_2 * 65536)), .int .i64 (wrap64 (a0_3 * 65536)), .int .i64 0, .int .i64 0] 23 (0, 0)) (by (with_reducible repeat (first | refine blk_drewN ?_ _ | refine blk_drew ?_ | refine blk_alloc ?_ _)); exact BK367.out) hb)
              have n3_ := Aside0.mk (blk_below (g := gb368) (o := .cells #[.int .i64 (wrap64 (a1_0 * 65536)), .int .i64 (wrap64 (a1_1 * 65536)), .int .i64 (wrap64 (a1_2 * 65536)), .int .i64 (wrap64 (a1_3 * 65536)), .int .i64 0, .int .i64 0] 23 (0, 0)) (by (with_reducible repeat (first | refine blk_drewN ?_ _ | refine blk_drew ?_ | refine blk_alloc ?_ _)); exact BK368.out) hb)
              have n4_ := Aside0.mk (blk_below (g := gb380) (o := .cells #[.int .i64 t373, .int .i64 t374, .int .i64 t375, .int .i64 t376, .int .i64 t377, .int .i64 t378] 23 (0, 0)) (by (with_reducible repeat (first | refine blk_drewN ?_ _ | refine blk_drew ?_ | refine blk_alloc ?_ _)); exact BK380.out) hb)
              have n5_ := Aside0.mk (below_step (by repeat (first | (with_reducible first | exact HB.out | apply below_alloc | apply pw_below_drewN | apply below_drew1 | refine below_set ?_ GE365.out | refine below_set ?_ GE366.out | refine below_set ?_ GE367.out | refine below_set ?_ GE368.out | refine below_set ?_ GE380.out) | exact HB.out)) hb)
              clear BK365
              clear BK366
              clear BK367
              clear BK368
              clear BK380
              clear HB
              have BK365 := n0_
              have BK366 := n1_
              have BK367 := n2_
              have BK368 := n3_
              have BK380 := n4_
              have HB := n5_
              clear n0_ n1_ n2_ n3_ n4_ n5_
              (try clear hb)
              (try clear hb2)
              (try clear hk)
              (try clear hi)
              refine hK.out _ _ ⟨(blk_cell BK380.out 0).trans rfl, (blk_cell BK380.out 1).trans rfl, (blk_cell BK380.out 2).trans rfl, (blk_cell BK380.out 3).trans rfl, (blk_cell BK380.out 4).trans rfl, (blk_cell BK380.out 5).trans rfl, (blk_cell BK367.out 0).trans rfl, (blk_cell BK367.out 1).trans rfl, (blk_cell BK367.out 2).trans rfl, (blk_cell BK367.out 3).trans rfl, (blk_cell BK367.out 4).trans rfl, (blk_cell BK367.out 5).trans rfl, (blk_cell BK365.out 0).trans rfl, (blk_cell BK365.out 1).trans rfl, (blk_cell BK365.out 2).trans rfl, (blk_cell BK365.out 3).trans rfl⟩ (fun hHeld => ?_)
              clear hK K
              refine norm_ (a' := ?_) ?_ ?_
              rotate_left
              · show Act.put _ (some 95) _ = _
                simp only [Act.put, List.setIfInBounds_toArray, List.set_cons_zero, List.set_cons_succ, i64_w, i32_w]
                rfl
              refine pure_ (i := 6) (N := some 96) (v := ?_) (a' := ?_) #[true, true, true, true, true, true, true, false, false, false, false, false, false, false, false, false, false, false, false, false, false, false, false, false, false, false, false, false] rfl rfl (any_of HT_.out (by kernel_rfl)) (fun _ _ _ h => h) (Or.inl ⟨by rfl, ?_⟩) ?_ ?_
              rotate_left
              · intro w'
                go_simp
                with_reducible rfl
              rotate_left
              · simp only [Act.put, List.setIfInBounds_toArray, List.set_cons_zero, List.set_cons_succ, i64_w, i32_w]
                rfl
              refine pure_ (i := 7) (N := some 97) (v := ?_) (a' := ?_) #[true, true, true, true, true, true, true, true, false, false, false, false, false, false, false, false, false, false, false, false, false, false, false, false, false, false, false, false] rfl rfl (any_of HT_.out (by kernel_rfl)) (fun _ _ _ h => h) (Or.inl ⟨by rfl, ?_⟩) ?_ ?_
              rotate_left
              · intro w'
                go_simp
                with_reducible rfl
              rotate_left
              · simp only [Act.put, List.setIfInBounds_toArray, List.set_cons_zero, List.set_cons_succ, i64_w, i32_w]
                rfl
              refine pure_ (i := 10) (N := some 100) (v := ?_) (a' := ?_) #[true, true, true, true, true, true, true, true, false, false, true, false, false, false, false, false, false, false, false, false, false, false, false, false, false, false, false, false] rfl rfl (any_of HT_.out (by kernel_rfl)) (fun _ _ _ h => h) (Or.inl ⟨by rfl, ?_⟩) ?_ ?_
              rotate_left
              · intro w'
                go_simp
                with_reducible rfl
              rotate_left
              · simp only [Act.put, List.setIfInBounds_toArray, List.set_cons_zero, List.set_cons_succ, i64_w, i32_w]
                rfl
              refine pure_ (i := 12) (N := some 102) (v := ?_) (a' := ?_) #[true, true, true, true, true, true, true, true, false, false, true, false, true, false, false, false, false, false, false, false, false, false, false, false, false, false, false, false] rfl rfl (any_of HT_.out (by kernel_rfl)) (fun _ _ _ h => h) (Or.inl ⟨by rfl, ?_⟩) ?_ ?_
              rotate_left
              · intro w'
                go_simp
                with_reducible rfl
              rotate_left
              · simp only [Act.put, List.setIfInBounds_toArray, List.set_cons_zero, List.set_cons_succ, i64_w, i32_w]
                rfl
              refine pure_ (i := 15) (N := some 105) (v := ?_) (a' := ?_) #[true, true, true, true, true, true, true, true, false, false, true, false, true, false, false, true, false, false, false, false, false, false, false, false, false, false, false, false] rfl rfl (any_of HT_.out (by kernel_rfl)) (fun _ _ _ h => h) (Or.inl ⟨by rfl, ?_⟩) ?_ ?_
              rotate_left
              · intro w'
                go_simp
                with_reducible rfl
              rotate_left
              · simp only [Act.put, List.setIfInBounds_toArray, List.set_cons_zero, List.set_cons_succ, i64_w, i32_w]
                rfl
              refine pure_ (i := 17) (N := some 107) (v := ?_) (a' := ?_) #[true, true, true, true, true, true, true, true, false, false, true, false, true, false, false, true, false, true, false, false, false, false, false, false, false, false, false, false] rfl rfl (any_of HT_.out (by kernel_rfl)) (fun _ _ _ h => h) (Or.inl ⟨by rfl, ?_⟩) ?_ ?_
              rotate_left
              · intro w'
                go_simp
                with_reducible rfl
              rotate_left
              · simp only [Act.put, List.setIfInBounds_toArray, List.set_cons_zero, List.set_cons_succ, i64_w, i32_w]
                rfl
              refine take_ (i := 8) (N := some 98) (v := ?_) (a' := ?_) #[true, true, true, true, true, true, true, true, true, false, true, false, true, false, false, true, false, true, false, false, false, false, false, false, false, false, false, false] rfl rfl (take_ofW HT_.out HW_.out (by kernel_rfl)) (fun _ _ _ h => h) (Or.inl ⟨by rfl, ?_⟩) hHeld ?_ ?_
              rotate_left
              · rintro w' ⟨s0, s1, s2, s3, s4, s5, s6, s7, s8, s9, s10, s11, s12, s13, s14, s15⟩
                go_simp
                with_reducible rfl
              rotate_left
              · simp only [Act.put, List.setIfInBounds_toArray, List.set_cons_zero, List.set_cons_succ, i64_w, i32_w]
                rfl
              refine take_ (i := 11) (N := some 101) (v := ?_) (a' := ?_) #[true, true, true, true, true, true, true, true, true, false, true, true, true, false, false, true, false, true, false, false, false, false, false, false, false, false, false, false] rfl rfl (take_ofW HT_.out HW_.out (by kernel_rfl)) (fun _ _ _ h => h) (Or.inl ⟨by rfl, ?_⟩) hHeld ?_ ?_
              rotate_left
              · rintro w' ⟨s0, s1, s2, s3, s4, s5, s6, s7, s8, s9, s10, s11, s12, s13, s14, s15⟩
                go_simp
                with_reducible rfl
              rotate_left
              · simp only [Act.put, List.setIfInBounds_toArray, List.set_cons_zero, List.set_cons_succ, i64_w, i32_w]
                rfl
              refine take_ (i := 13) (N := some 103) (v := ?_) (a' := ?_) #[true, true, true, true, true, true, true, true, true, false, true, true, true, true, false, true, false, true, false, false, false, false, false, false, false, false, false, false] rfl rfl (take_ofW HT_.out HW_.out (by kernel_rfl)) (fun _ _ _ h => h) (Or.inl ⟨by rfl, ?_⟩) hHeld ?_ ?_
              rotate_left
              · rintro w' ⟨s0, s1, s2, s3, s4, s5, s6, s7, s8, s9, s10, s11, s12, s13, s14, s15⟩
                go_simp
                with_reducible rfl
              rotate_left
              · simp only [Act.put, List.setIfInBounds_toArray, List.set_cons_zero, List.set_cons_succ, i64_w, i32_w]
                rfl
              refine pure_ (i := 14) (N := some 104) (v := ?_) (a' := ?_) #[true, true, true, true, true, true, true, true, true, false, true, true, true, true, true, true, false, true, false, false, false, false, false, false, false, false, false, false] rfl rfl (any_of HT_.out (by kernel_rfl)) (fun _ _ _ h => h) (Or.inl ⟨by rfl, ?_⟩) ?_ ?_
              rotate_left
              · intro w'
                go_simp
                with_reducible rfl
              rotate_left
              · simp only [Act.put, List.setIfInBounds_toArray, List.set_cons_zero, List.set_cons_succ, i64_w, i32_w]
                rfl
              refine take_ (i := 16) (N := some 106) (v := ?_) (a' := ?_) #[true, true, true, true, true, true, true, true, true, false, true, true, true, true, true, true, true, true, false, false, false, false, false, false, false, false, false, false] rfl rfl (take_ofW HT_.out HW_.out (by kernel_rfl)) (fun _ _ _ h => h) (Or.inl ⟨by rfl, ?_⟩) hHeld ?_ ?_
              rotate_left
              · rintro w' ⟨s0, s1, s2, s3, s4, s5, s6, s7, s8, s9, s10, s11, s12, s13, s14, s15⟩
                go_simp
                with_reducible rfl
              rotate_left
              · simp only [Act.put, List.setIfInBounds_toArray, List.set_cons_zero, List.set_cons_succ, i64_w, i32_w]
                rfl
              refine take_ (i := 18) (N := some 108) (v := ?_) (a' := ?_) #[true, true, true, true, true, true, true, true, true, false, true, true, true, true, true, true, true, true, true, false, false, false, false, false, false, false, false, false] rfl rfl (take_ofW HT_.out HW_.out (by kernel_rfl)) (fun _ _ _ h => h) (Or.inl ⟨by rfl, ?_⟩) hHeld ?_ ?_
              rotate_left
              · rintro w' ⟨s0, s1, s2, s3, s4, s5, s6, s7, s8, s9, s10, s11, s12, s13, s14, s15⟩
                go_simp
                with_reducible rfl
              rotate_left
              · simp only [Act.put, List.setIfInBounds_toArray, List.set_cons_zero, List.set_cons_succ, i64_w, i32_w]
                rfl
              refine pure_ (i := 19) (N := some 109) (v := ?_) (a' := ?_) #[true, true, true, true, true, true, true, true, true, false, true, true, true, true, true, true, true, true, true, true, false, false, false, false, false, false, false, false] rfl rfl (any_of HT_.out (by kernel_rfl)) (fun _ _ _ h => h) (Or.inl ⟨by rfl, ?_⟩) ?_ ?_
              rotate_left
              · intro w'
                go_simp
                with_reducible rfl
              rotate_left
              · simp only [Act.put, List.setIfInBounds_toArray, List.set_cons_zero, List.set_cons_succ, i64_w, i32_w]
                rfl
              refine pure_ (i := 20) (N := some 110) (v := ?_) (a' := ?_) #[true, true, true, true, true, true, true, true, true, false, true, true, true, true, true, true, true, true, true, true, true, false, false, false, false, false, false, false] rfl rfl (any_of HT_.out (by kernel_rfl)) (fun _ _ _ h => h) (Or.inl ⟨by rfl, ?_⟩) ?_ ?_
              rotate_left
              · intro w'
                go_simp
                with_reducible rfl
              rotate_left
              · simp only [Act.put, List.setIfInBounds_toArray, List.set_cons_zero, List.set_cons_succ, i64_w, i32_w]
                rfl
              refine one_ (i := 9) (N := some 99) #[true, true, true, true, true, true, true, true, true, true, true, true, true, true, true, true, true, true, true, true, true, false, false, false, false, false, false, false] rfl rfl (one_of HT_.out (by kernel_rfl)) (by decide) (fun K hK => ?_)
              refine goes_ Try.func33 (by kernel_rfl) rfl #[.agg #[.int .i64 (wrap64 (a0_0 * 65536)), .int .i64 (wrap64 (a0_1 * 65536)), .int .i64 (wrap64 (a0_2 * 65536)), .int .i64 (wrap64 (a0_3 * 65536)), .int .i64 0, .int .i64 0]] (by rfl) rfl rfl (by (try simp only [List.map_toArray, List.map_cons, List.map_nil]); first | done | rfl | (simp only [List.length_drop, List.length_take]; rfl)) ?_
              with_reducible refine (affine_Matrix_Det.calls (wrap64 (a0_0 * 65536)) (wrap64 (a0_1 * 65536)) (wrap64 (a0_2 * 65536)) (wrap64 (a0_3 * 65536)) 0 0 t382 t383 _ A76.out).mono ?_
              rintro e w110 ⟨rfl, hb⟩
              refine ⟨_, rfl, ?_⟩
              have n0_ := Aside0.mk (blk_below (g := gb365) (o := .cells #[.int .i64 a0_0, .int .i64 a0_1, .int .i64 a0_2, .int .i64 a0_3] 60 (0, 0)) (by (with_reducible repeat (first | refine blk_drewN ?_ _ | refine blk_drew ?_ | refine blk_alloc ?_ _)); exact BK365.out) hb)
              have n1_ := Aside0.mk (blk_below (g := gb366) (o := .cells #[.int .i64 a1_0, .int .i64 a1_1, .int .i64 a1_2, .int .i64 a1_3] 60 (0, 0)) (by (with_reducible repeat (first | refine blk_drewN ?_ _ | refine blk_drew ?_ | refine blk_alloc ?_ _)); exact BK366.out) hb)
              have n2_ := Aside0.mk (blk_below (g := gb367) (o := .cells #[.int .i64 (wrap64 (a0_0 * 65536)), .int .i64 (wrap64 (a0_1 * 65536)), .int .i64 (wrap64 (a0_2 * 65536)), .int .i64 (wrap64 (a0_3 * 65536)), .int .i64 0, .int .i64 0] 23 (0, 0)) (by (with_reducible repeat (first | refine blk_drewN ?_ _ | refine blk_drew ?_ | refine blk_alloc ?_ _)); exact BK367.out) hb)
              have n3_ := Aside0.mk (blk_below (g := gb368) (o := .cells #[.int .i64 (wrap64 (a1_0 * 65536)), .int .i64 (wrap64 (a1_1 * 65536)), .int .i64 (wrap64 (a1_2 * 65536)), .int .i64 (wrap64 (a1_3 * 65536)), .int .i64 0, .int .i64 0] 23 (0, 0)) (by (with_reducible repeat (first | refine blk_drewN ?_ _ | refine blk_drew ?_ | refine blk_alloc ?_ _)); exact BK368.out) hb)
              have n4_ := Aside0.mk (blk_below (g := gb380) (o := .cells #[.int .i64 t373, .int .i64 t374, .int .i64 t375, .int .i64 t376, .int .i64 t377, .int .i64 t378] 23 (0, 0)) (by (with_reducible repeat (first | refine blk_drewN ?_ _ | refine blk_drew ?_ | refine blk_alloc ?_ _)); exact BK380.out) hb)
              have n5_ := Aside0.mk (below_step (by repeat (first | (with_reducible first | exact HB.out | apply below_alloc | apply pw_below_drewN | apply below_drew1 | refine below_set ?_ GE365.out | refine below_set ?_ GE366.out | refine below_set ?_ GE367.out | refine below_set ?_ GE368.out | refine below_set ?_ GE380.out) | exact HB.out)) hb)
              clear BK365
              clear BK366
              clear BK367
              clear BK368
              clear BK380
              clear HB
              have BK365 := n0_
              have BK366 := n1_
              have BK367 := n2_
              have BK368 := n3_
              have BK380 := n4_
              have HB := n5_
              clear n0_ n1_ n2_ n3_ n4_ n5_
              (try clear hb)
              (try clear hb2)
              (try clear hk)
              (try clear hi)
              refine hK.out _ _ ⟨(blk_cell BK380.out 0).trans rfl, (blk_cell BK380.out 1).trans rfl, (blk_cell BK380.out 2).trans rfl, (blk_cell BK380.out 3).trans rfl, (blk_cell BK380.out 4).trans rfl, (blk_cell BK380.out 5).trans rfl, (blk_cell BK367.out 0).trans rfl, (blk_cell BK367.out 1).trans rfl, (blk_cell BK367.out 2).trans rfl, (blk_cell BK367.out 3).trans rfl, (blk_cell BK367.out 4).trans rfl, (blk_cell BK367.out 5).trans rfl, (blk_cell BK365.out 0).trans rfl, (blk_cell BK365.out 1).trans rfl, (blk_cell BK365.out 2).trans rfl, (blk_cell BK365.out 3).trans rfl⟩ (fun hHeld => ?_)
              clear hK K
              refine norm_ (a' := ?_) ?_ ?_
              rotate_left
              · show Act.put _ (some 99) _ = _
                simp only [Act.put, List.setIfInBounds_toArray, List.set_cons_zero, List.set_cons_succ, i64_w, i32_w]
                rfl
              refine one_ (i := 21) (N := some 111) #[true, true, true, true, true, true, true, true, true, true, true, true, true, true, true, true, true, true, true, true, true, true, false, false, false, false, false, false] rfl rfl (one_of HT_.out (by kernel_rfl)) (by decide) (fun K hK => ?_)
              refine goes_ Try.func36 (by kernel_rfl) rfl #[.int .i64 (wrap64 ((wrap64 (a0_0 * a0_3)) - (wrap64 (a0_1 * a0_2)))), .int .i64 4294967296] (by rfl) rfl rfl (by (try simp only [List.map_toArray, List.map_cons, List.map_nil]); first | done | rfl | (simp only [List.length_drop, List.length_take]; rfl)) ?_
              with_reducible refine (wide_Mul.calls (wrap64 ((wrap64 (a0_0 * a0_3)) - (wrap64 (a0_1 * a0_2)))) 4294967296 t402 t403 _ A78.out).mono ?_
              rintro e w111 ⟨rfl, hb⟩
              refine ⟨_, rfl, ?_⟩
              have n0_ := Aside0.mk (blk_below (g := gb365) (o := .cells #[.int .i64 a0_0, .int .i64 a0_1, .int .i64 a0_2, .int .i64 a0_3] 60 (0, 0)) (by (with_reducible repeat (first | refine blk_drewN ?_ _ | refine blk_drew ?_ | refine blk_alloc ?_ _)); exact BK365.out) hb)
              have n1_ := Aside0.mk (blk_below (g := gb366) (o := .cells #[.int .i64 a1_0, .int .i64 a1_1, .int .i64 a1_2, .int .i64 a1_3] 60 (0, 0)) (by (with_reducible repeat (first | refine blk_drewN ?_ _ | refine blk_drew ?_ | refine blk_alloc ?_ _)); exact BK366.out) hb)
              have n2_ := Aside0.mk (blk_below (g := gb367) (o := .cells #[.int .i64 (wrap64 (a0_0 * 65536)), .int .i64 (wrap64 (a0_1 * 65536)), .int .i64 (wrap64 (a0_2 * 65536)), .int .i64 (wrap64 (a0_3 * 65536)), .int .i64 0, .int .i64 0] 23 (0, 0)) (by (with_reducible repeat (first | refine blk_drewN ?_ _ | refine blk_drew ?_ | refine blk_alloc ?_ _)); exact BK367.out) hb)
              have n3_ := Aside0.mk (blk_below (g := gb368) (o := .cells #[.int .i64 (wrap64 (a1_0 * 65536)), .int .i64 (wrap64 (a1_1 * 65536)), .int .i64 (wrap64 (a1_2 * 65536)), .int .i64 (wrap64 (a1_3 * 65536)), .int .i64 0, .int .i64 0] 23 (0, 0)) (by (with_reducible repeat (first | refine blk_drewN ?_ _ | refine blk_drew ?_ | refine blk_alloc ?_ _)); exact BK368.out) hb)
              have n4_ := Aside0.mk (blk_below (g := gb380) (o := .cells #[.int .i64 t373, .int .i64 t374, .int .i64 t375, .int .i64 t376, .int .i64 t377, .int .i64 t378] 23 (0, 0)) (by (with_reducible repeat (first | refine blk_drewN ?_ _ | refine blk_drew ?_ | refine blk_alloc ?_ _)); exact BK380.out) hb)
              have n5_ := Aside0.mk (below_step (by repeat (first | (with_reducible first | exact HB.out | apply below_alloc | apply pw_below_drewN | apply below_drew1 | refine below_set ?_ GE365.out | refine below_set ?_ GE366.out | refine below_set ?_ GE367.out | refine below_set ?_ GE368.out | refine below_set ?_ GE380.out) | exact HB.out)) hb)
              clear BK365
              clear BK366
              clear BK367
              clear BK368
              clear BK380
              clear HB
              have BK365 := n0_
              have BK366 := n1_
              have BK367 := n2_
              have BK368 := n3_
              have BK380 := n4_
              have HB := n5_
              clear n0_ n1_ n2_ n3_ n4_ n5_
              (try clear hb)
              (try clear hb2)
              (try clear hk)
              (try clear hi)
              refine hK.out _ _ ⟨(blk_cell BK380.out 0).trans rfl, (blk_cell BK380.out 1).trans rfl, (blk_cell BK380.out 2).trans rfl, (blk_cell BK380.out 3).trans rfl, (blk_cell BK380.out 4).trans rfl, (blk_cell BK380.out 5).trans rfl, (blk_cell BK367.out 0).trans rfl, (blk_cell BK367.out 1).trans rfl, (blk_cell BK367.out 2).trans rfl, (blk_cell BK367.out 3).trans rfl, (blk_cell BK367.out 4).trans rfl, (blk_cell BK367.out 5).trans rfl, (blk_cell BK365.out 0).trans rfl, (blk_cell BK365.out 1).trans rfl, (blk_cell BK365.out 2).trans rfl, (blk_cell BK365.out 3).trans rfl⟩ (fun hHeld => ?_)
              clear hK K
              refine norm_ (a' := ?_) ?_ ?_
              rotate_left
              · show Act.put _ (some 111) _ = _
                simp only [Act.put, List.setIfInBounds_toArray, List.set_cons_zero, List.set_cons_succ, i64_w, i32_w]
                rfl
              refine pure_ (i := 22) (N := some 112) (v := ?_) (a' := ?_) #[true, true, true, true, true, true, true, true, true, true, true, true, true, true, true, true, true, true, true, true, true, true, true, false, false, false, false, false] rfl rfl (any_of HT_.out (by kernel_rfl)) (fun _ _ _ h => h) (Or.inl ⟨by rfl, ?_⟩) ?_ ?_
              rotate_left
              · intro w'
                go_simp
                with_reducible rfl
              rotate_left
              · simp only [Act.put, List.setIfInBounds_toArray, List.set_cons_zero, List.set_cons_succ, i64_w, i32_w]
                rfl
              refine pure_ (i := 23) (N := some 113) (v := ?_) (a' := ?_) #[true, true, true, true, true, true, true, true, true, true, true, true, true, true, true, true, true, true, true, true, true, true, true, true, false, false, false, false] rfl rfl (any_of HT_.out (by kernel_rfl)) (fun _ _ _ h => h) (Or.inl ⟨by rfl, ?_⟩) ?_ ?_
              rotate_left
              · intro w'
                go_simp
                with_reducible rfl
              rotate_left
              · simp only [Act.put, List.setIfInBounds_toArray, List.set_cons_zero, List.set_cons_succ, i64_w, i32_w]
                rfl
              refine pure_ (i := 24) (N := some 114) (v := ?_) (a' := ?_) #[true, true, true, true, true, true, true, true, true, true, true, true, true, true, true, true, true, true, true, true, true, true, true, true, true, false, false, false] rfl rfl (any_of HT_.out (by kernel_rfl)) (fun _ _ _ h => h) (Or.inl ⟨by rfl, ?_⟩) ?_ ?_
              rotate_left
              · intro w'
                go_simp
                with_reducible rfl
              rotate_left
              · simp only [Act.put, List.setIfInBounds_toArray, List.set_cons_zero, List.set_cons_succ, i64_w, i32_w]
                rfl
              refine one_ (i := 25) (N := some 115) #[true, true, true, true, true, true, true, true, true, true, true, true, true, true, true, true, true, true, true, true, true, true, true, true, true, true, false, false] rfl rfl (one_of HT_.out (by kernel_rfl)) (by decide) (fun K hK => ?_)
              refine goes_ Try.func21 (by kernel_rfl) rfl #[] (by rfl) rfl rfl (by (try simp only [List.map_toArray, List.map_cons, List.map_nil]); first | done | rfl | (simp only [List.length_drop, List.length_take]; rfl)) ?_
              with_reducible refine (limnerlaw04_awake.calls k1  t404 _ A80.out).mono ?_
              rintro e w112 ⟨rfl, hb⟩
              refine ⟨_, rfl, ?_⟩
              have n0_ := Aside0.mk (blk_below (g := gb365) (o := .cells #[.int .i64 a0_0, .int .i64 a0_1, .int .i64 a0_2, .int .i64 a0_3] 60 (0, 0)) (by (with_reducible repeat (first | refine blk_drewN ?_ _ | refine blk_drew ?_ | refine blk_alloc ?_ _)); exact BK365.out) hb)
              have n1_ := Aside0.mk (blk_below (g := gb366) (o := .cells #[.int .i64 a1_0, .int .i64 a1_1, .int .i64 a1_2, .int .i64 a1_3] 60 (0, 0)) (by (with_reducible repeat (first | refine blk_drewN ?_ _ | refine blk_drew ?_ | refine blk_alloc ?_ _)); exact BK366.out) hb)
              have n2_ := Aside0.mk (blk_below (g := gb367) (o := .cells #[.int .i64 (wrap64 (a0_0 * 65536)), .int .i64 (wrap64 (a0_1 * 65536)), .int .i64 (wrap64 (a0_2 * 65536)), .int .i64 (wrap64 (a0_3 * 65536)), .int .i64 0, .int .i64 0] 23 (0, 0)) (by (with_reducible repeat (first | refine blk_drewN ?_ _ | refine blk_drew ?_ | refine blk_alloc ?_ _)); exact BK367.out) hb)
              have n3_ := Aside0.mk (blk_below (g := gb368) (o := .cells #[.int .i64 (wrap64 (a1_0 * 65536)), .int .i64 (wrap64 (a1_1 * 65536)), .int .i64 (wrap64 (a1_2 * 65536)), .int .i64 (wrap64 (a1_3 * 65536)), .int .i64 0, .int .i64 0] 23 (0, 0)) (by (with_reducible repeat (first | refine blk_drewN ?_ _ | refine blk_drew ?_ | refine blk_alloc ?_ _)); exact BK368.out) hb)
              have n4_ := Aside0.mk (blk_below (g := gb380) (o := .cells #[.int .i64 t373, .int .i64 t374, .int .i64 t375, .int .i64 t376, .int .i64 t377, .int .i64 t378] 23 (0, 0)) (by (with_reducible repeat (first | refine blk_drewN ?_ _ | refine blk_drew ?_ | refine blk_alloc ?_ _)); exact BK380.out) hb)
              have n5_ := Aside0.mk (below_step (by repeat (first | (with_reducible first | exact HB.out | apply below_alloc | apply pw_below_drewN | apply below_drew1 | refine below_set ?_ GE365.out | refine below_set ?_ GE366.out | refine below_set ?_ GE367.out | refine below_set ?_ GE368.out | refine below_set ?_ GE380.out) | exact HB.out)) hb)
              clear BK365
              clear BK366
              clear BK367
              clear BK368
              clear BK380
              clear HB
              have BK365 := n0_
              have BK366 := n1_
              have BK367 := n2_
              have BK368 := n3_
              have BK380 := n4_
              have HB := n5_
              clear n0_ n1_ n2_ n3_ n4_ n5_
              (try clear hb)
              (try clear hb2)
              (try clear hk)
              (try clear hi)
              refine hK.out _ _ ⟨(blk_cell BK380.out 0).trans rfl, (blk_cell BK380.out 1).trans rfl, (blk_cell BK380.out 2).trans rfl, (blk_cell BK380.out 3).trans rfl, (blk_cell BK380.out 4).trans rfl, (blk_cell BK380.out 5).trans rfl, (blk_cell BK367.out 0).trans rfl, (blk_cell BK367.out 1).trans rfl, (blk_cell BK367.out 2).trans rfl, (blk_cell BK367.out 3).trans rfl, (blk_cell BK367.out 4).trans rfl, (blk_cell BK367.out 5).trans rfl, (blk_cell BK365.out 0).trans rfl, (blk_cell BK365.out 1).trans rfl, (blk_cell BK365.out 2).trans rfl, (blk_cell BK365.out 3).trans rfl⟩ (fun hHeld => ?_)
              clear hK K
              refine norm_ (a' := ?_) ?_ ?_
              rotate_left
              · show Act.put _ (some 115) _ = _
                simp only [Act.put, List.setIfInBounds_toArray, List.set_cons_zero, List.set_cons_succ, i64_w, i32_w]
                rfl
              refine pure_ (i := 26) (N := some 116) (v := ?_) (a' := ?_) #[true, true, true, true, true, true, true, true, true, true, true, true, true, true, true, true, true, true, true, true, true, true, true, true, true, true, true, false] rfl rfl (any_of HT_.out (by kernel_rfl)) (fun _ _ _ h => h) (Or.inl ⟨by rfl, ?_⟩) ?_ ?_
              rotate_left
              · intro w'
                go_simp
                with_reducible rfl
              rotate_left
              · simp only [Act.put, List.setIfInBounds_toArray, List.set_cons_zero, List.set_cons_succ, i64_w, i32_w]
                rfl
              refine pure_ (i := 27) (N := some 4) (v := ?_) (a' := ?_) #[true, true, true, true, true, true, true, true, true, true, true, true, true, true, true, true, true, true, true, true, true, true, true, true, true, true, true, true] rfl rfl (any_of HT_.out (by kernel_rfl)) (fun _ _ _ h => h) (Or.inl ⟨by rfl, ?_⟩) ?_ ?_
              rotate_left
              · intro w'
                go_simp
                with_reducible rfl
              rotate_left
              · simp only [Act.put, List.setIfInBounds_toArray, List.set_cons_zero, List.set_cons_succ, i64_w, i32_w]
                rfl
              refine done_ (done_of HT_.out (by kernel_rfl)) ?_
              try go_wp2
              go_ret
              exact ⟨by first | rfl | (simp [errW_none, errW_some] <;> rfl) | (simp [*, errW_none, errW_some] <;> rfl), by repeat (first | (with_reducible first | exact HB.out | apply below_alloc | apply pw_below_drewN | apply below_drew1 | refine below_set ?_ GE365.out | refine below_set ?_ GE366.out | refine below_set ?_ GE367.out | refine below_set ?_ GE368.out | refine below_set ?_ GE380.out) | exact HB.out)⟩
            · rw [if_neg c79] at H
              have c79b0 : (t382 == t402 && (t383 == t403)) = false := by simpa using c79
              (try (have c79b1 : decide (t382 = t402 && (t383 == t403)) = false := by simpa using c79))
              (try (have c79b2 : (t382 == t402 && (t383 == t403)) = false := by simpa using c79))
              (try (have c79b3 : ¬ (t382 = t402 && (t383 == t403)) := by simpa using c79))
              clear c79
              exact absurd H (by simp)
          · rw [if_neg c75] at H
            have c75b0 : (t396 == t398 && (t397 == t399)) = false := by simpa using c75
            (try (have c75b1 : decide (t396 = t398 && (t397 == t399)) = false := by simpa using c75))
            (try (have c75b2 : (t396 == t398 && (t397 == t399)) = false := by simpa using c75))
            (try (have c75b3 : ¬ (t396 = t398 && (t397 == t399)) := by simpa using c75))
            clear c75
            exact absurd H (by simp)
        · rw [if_neg c65] at H
          have c65b0 : (t379 == 0) = false := beq_eq_false_iff_ne.mpr c65
          have c65b1 : (t379 != 0) = true := bne_iff_ne.mpr c65
          replace H := Option.bind_eq_some_iff.mp H
          obtain ⟨t381, A1130, H⟩ := H
          replace H : (some t381) = some r := H
          have A113 := Aside0.mk A1130
          clear A1130
          obtain rfl := Option.some.inj H
          have hnb114 := NB365_366.out
          have hnc114 := NB366_365.out
          have hnb115 := NB365_367.out
          have hnc115 := NB367_365.out
          have hnb116 := NB365_368.out
          have hnc116 := NB368_365.out
          have hcz117_0 : wr.cell? ⟨gb365, 0, none⟩ = some (.int .i64 a0_0) := (blk_cell BK365.out 0).trans rfl
          have hcz117_1 : wr.cell? ⟨gb365, 1, none⟩ = some (.int .i64 a0_1) := (blk_cell BK365.out 1).trans rfl
          have hcz117_2 : wr.cell? ⟨gb365, 2, none⟩ = some (.int .i64 a0_2) := (blk_cell BK365.out 2).trans rfl
          have hcz117_3 : wr.cell? ⟨gb365, 3, none⟩ = some (.int .i64 a0_3) := (blk_cell BK365.out 3).trans rfl
          have hfz117_0 := blk_frozen BK365.out 0
          have hfz117_1 := blk_frozen BK365.out 1
          have hfz117_2 := blk_frozen BK365.out 2
          have hfz117_3 := blk_frozen BK365.out 3
          have hnb118 := NB367_366.out
          have hnc118 := NB366_367.out
          have hnb119 := NB367_368.out
          have hnc119 := NB368_367.out
          have hcz120_0 : wr.cell? ⟨gb367, 0, none⟩ = some (.int .i64 0) := (blk_cell BK367.out 0).trans rfl
          have hcz120_1 : wr.cell? ⟨gb367, 1, none⟩ = some (.int .i64 0) := (blk_cell BK367.out 1).trans rfl
          have hcz120_2 : wr.cell? ⟨gb367, 2, none⟩ = some (.int .i64 0) := (blk_cell BK367.out 2).trans rfl
          have hcz120_3 : wr.cell? ⟨gb367, 3, none⟩ = some (.int .i64 0) := (blk_cell BK367.out 3).trans rfl
          have hcz120_4 : wr.cell? ⟨gb367, 4, none⟩ = some (.int .i64 0) := (blk_cell BK367.out 4).trans rfl
          have hcz120_5 : wr.cell? ⟨gb367, 5, none⟩ = some (.int .i64 0) := (blk_cell BK367.out 5).trans rfl
          have hfz120_0 := blk_frozen BK367.out 0
          have hfz120_1 := blk_frozen BK367.out 1
          have hfz120_2 := blk_frozen BK367.out 2
          have hfz120_3 := blk_frozen BK367.out 3
          have hfz120_4 := blk_frozen BK367.out 4
          have hfz120_5 := blk_frozen BK367.out 5
          have hnb121 := NB366_368.out
          have hnc121 := NB368_366.out
          have hcz122_0 : wr.cell? ⟨gb366, 0, none⟩ = some (.int .i64 a1_0) := (blk_cell BK366.out 0).trans rfl
          have hcz122_1 : wr.cell? ⟨gb366, 1, none⟩ = some (.int .i64 a1_1) := (blk_cell BK366.out 1).trans rfl
          have hcz122_2 : wr.cell? ⟨gb366, 2, none⟩ = some (.int .i64 a1_2) := (blk_cell BK366.out 2).trans rfl
          have hcz122_3 : wr.cell? ⟨gb366, 3, none⟩ = some (.int .i64 a1_3) := (blk_cell BK366.out 3).trans rfl
          have hfz122_0 := blk_frozen BK366.out 0
          have hfz122_1 := blk_frozen BK366.out 1
          have hfz122_2 := blk_frozen BK366.out 2
          have hfz122_3 := blk_frozen BK366.out 3
          have hcz123_0 : wr.cell? ⟨gb368, 0, none⟩ = some (.int .i64 0) := (blk_cell BK368.out 0).trans rfl
          have hcz123_1 : wr.cell? ⟨gb368, 1, none⟩ = some (.int .i64 0) := (blk_cell BK368.out 1).trans rfl
          have hcz123_2 : wr.cell? ⟨gb368, 2, none⟩ = some (.int .i64 0) := (blk_cell BK368.out 2).trans rfl
          have hcz123_3 : wr.cell? ⟨gb368, 3, none⟩ = some (.int .i64 0) := (blk_cell BK368.out 3).trans rfl
          have hcz123_4 : wr.cell? ⟨gb368, 4, none⟩ = some (.int .i64 0) := (blk_cell BK368.out 4).trans rfl
          have hcz123_5 : wr.cell? ⟨gb368, 5, none⟩ = some (.int .i64 0) := (blk_cell BK368.out 5).trans rfl
          have hfz123_0 := blk_frozen BK368.out 0
          have hfz123_1 := blk_frozen BK368.out 1
          have hfz123_2 := blk_frozen BK368.out 2
          have hfz123_3 := blk_frozen BK368.out 3
          have hfz123_4 := blk_frozen BK368.out 4
          have hfz123_5 := blk_frozen BK368.out 5
          go_wp2_with (first | ((with_reducible refine gate_callee (f := 27) rfl ?_); refine goesL_ (some 70) rfl rfl Try.func27 (by kernel_rfl) rfl #[.agg #[.int .i64 (wrap64 (a0_0 * 65536)), .int .i64 (wrap64 (a0_1 * 65536)), .int .i64 (wrap64 (a0_2 * 65536)), .int .i64 (wrap64 (a0_3 * 65536)), .int .i64 0, .int .i64 0], .agg #[.int .i64 (wrap64 (a1_0 * 65536)), .int .i64 (wrap64 (a1_1 * 65536)), .int .i64 (wrap64 (a1_2 * 65536)), .int .i64 (wrap64 (a1_3 * 65536)), .int .i64 0, .int .i64 0]] rfl (by (try simp only [List.map_toArray, List.map_cons, List.map_nil]); first | done | rfl | (simp only [List.length_drop, List.length_take]; rfl)) ?_; (with_reducible refine (affine_Matrix_Then.calls k1 (wrap64 (a0_0 * 65536)) (wrap64 (a0_1 * 65536)) (wrap64 (a0_2 * 65536)) (wrap64 (a0_3 * 65536)) 0 0 (wrap64 (a1_0 * 65536)) (wrap64 (a1_1 * 65536)) (wrap64 (a1_2 * 65536)) (wrap64 (a1_3 * 65536)) 0 0 t373 t374 t375 t376 t377 t378 t379 _ A64.out).mono ?_); rintro e w124 ⟨rfl, hb⟩; refine ⟨_, rfl, ?_⟩; have n0_ := Aside0.mk (blk_below (g := gb365) (o := .cells #[.int .i64 a0_0, .int .i64 a0_1, .int .i64 a0_2, .int .i64 a0_3] 60 (0, 0)) (by (with_reducible repeat (first | refine blk_drewN ?_ _ | refine blk_drew ?_ | refine blk_alloc ?_ _)); refine blk_far ?_ NB365_368.out _; (with_reducible repeat (first | refine blk_drewN ?_ _ | refine blk_drew ?_ | refine blk_alloc ?_ _)); refine blk_far ?_ NB365_368.out _; (with_reducible repeat (first | refine blk_drewN ?_ _ | refine blk_drew ?_ | refine blk_alloc ?_ _)); refine blk_far ?_ NB365_368.out _; (with_reducible repeat (first | refine blk_drewN ?_ _ | refine blk_drew ?_ | refine blk_alloc ?_ _)); refine blk_far ?_ NB365_368.out _; (with_reducible repeat (first | refine blk_drewN ?_ _ | refine blk_drew ?_ | refine blk_alloc ?_ _)); refine blk_far ?_ NB365_368.out _; (with_reducible repeat (first | refine blk_drewN ?_ _ | refine blk_drew ?_ | refine blk_alloc ?_ _)); refine blk_far ?_ NB365_368.out _; (with_reducible repeat (first | refine blk_drewN ?_ _ | refine blk_drew ?_ | refine blk_alloc ?_ _)); refine blk_far ?_ NB365_367.out _; (with_reducible repeat (first | refine blk_drewN ?_ _ | refine blk_drew ?_ | refine blk_alloc ?_ _)); refine blk_far ?_ NB365_367.out _; (with_reducible repeat (first | refine blk_drewN ?_ _ | refine blk_drew ?_ | refine blk_alloc ?_ _)); refine blk_far ?_ NB365_367.out _; (with_reducible repeat (first | refine blk_drewN ?_ _ | refine blk_drew ?_ | refine blk_alloc ?_ _)); refine blk_far ?_ NB365_367.out _; (with_reducible repeat (first | refine blk_drewN ?_ _ | refine blk_drew ?_ | refine blk_alloc ?_ _)); refine blk_far ?_ NB365_367.out _; (with_reducible repeat (first | refine blk_drewN ?_ _ | refine blk_drew ?_ | refine blk_alloc ?_ _)); refine blk_far ?_ NB365_367.out _; (with_reducible repeat (first | refine blk_drewN ?_ _ | refine blk_drew ?_ | refine blk_alloc ?_ _)); exact BK365.out) hb); have n1_ := Aside0.mk (blk_below (g := gb366) (o := .cells #[.int .i64 a1_0, .int .i64 a1_1, .int .i64 a1_2, .int .i64 a1_3] 60 (0, 0)) (by (with_reducible repeat (first | refine blk_drewN ?_ _ | refine blk_drew ?_ | refine blk_alloc ?_ _)); refine blk_far ?_ NB366_368.out _; (with_reducible repeat (first | refine blk_drewN ?_ _ | refine blk_drew ?_ | refine blk_alloc ?_ _)); refine blk_far ?_ NB366_368.out _; (with_reducible repeat (first | refine blk_drewN ?_ _ | refine blk_drew ?_ | refine blk_alloc ?_ _)); refine blk_far ?_ NB366_368.out _; (with_reducible repeat (first | refine blk_drewN ?_ _ | refine blk_drew ?_ | refine blk_alloc ?_ _)); refine blk_far ?_ NB366_368.out _; (with_reducible repeat (first | refine blk_drewN ?_ _ | refine blk_drew ?_ | refine blk_alloc ?_ _)); refine blk_far ?_ NB366_368.out _; (with_reducible repeat (first | refine blk_drewN ?_ _ | refine blk_drew ?_ | refine blk_alloc ?_ _)); refine blk_far ?_ NB366_368.out _; (with_reducible repeat (first | refine blk_drewN ?_ _ | refine blk_drew ?_ | refine blk_alloc ?_ _)); refine blk_far ?_ NB366_367.out _; (with_reducible repeat (first | refine blk_drewN ?_ _ | refine blk_drew ?_ | refine blk_alloc ?_ _)); refine blk_far ?_ NB366_367.out _; (with_reducible repeat (first | refine blk_drewN ?_ _ | refine blk_drew ?_ | refine blk_alloc ?_ _)); refine blk_far ?_ NB366_367.out _; (with_reducible repeat (first | refine blk_drewN ?_ _ | refine blk_drew ?_ | refine blk_alloc ?_ _)); refine blk_far ?_ NB366_367.out _; (with_reducible repeat (first | refine blk_drewN ?_ _ | refine blk_drew ?_ | refine blk_alloc ?_ _)); refine blk_far ?_ NB366_367.out _; (with_reducible repeat (first | refine blk_drewN ?_ _ | refine blk_drew ?_ | refine blk_alloc ?_ _)); refine blk_far ?_ NB366_367.out _; (with_reducible repeat (first | refine blk_drewN ?_ _ | refine blk_drew ?_ | refine blk_alloc ?_ _)); exact BK366.out) hb); have n2_ := Aside0.mk (blk_below (g := gb367) (o := .cells #[.int .i64 (wrap64 (a0_0 * 65536)), .int .i64 (wrap64 (a0_1 * 65536)), .int .i64 (wrap64 (a0_2 * 65536)), .int .i64 (wrap64 (a0_3 * 65536)), .int .i64 0, .int .i64 0] 23 (0, 0)) (by (with_reducible repeat (first | refine blk_drewN ?_ _ | refine blk_drew ?_ | refine blk_alloc ?_ _)); refine blk_far ?_ NB367_368.out _; (with_reducible repeat (first | refine blk_drewN ?_ _ | refine blk_drew ?_ | refine blk_alloc ?_ _)); refine blk_far ?_ NB367_368.out _; (with_reducible repeat (first | refine blk_drewN ?_ _ | refine blk_drew ?_ | refine blk_alloc ?_ _)); refine blk_far ?_ NB367_368.out _; (with_reducible repeat (first | refine blk_drewN ?_ _ | refine blk_drew ?_ | refine blk_alloc ?_ _)); refine blk_far ?_ NB367_368.out _; (with_reducible repeat (first | refine blk_drewN ?_ _ | refine blk_drew ?_ | refine blk_alloc ?_ _)); refine blk_far ?_ NB367_368.out _; (with_reducible repeat (first | refine blk_drewN ?_ _ | refine blk_drew ?_ | refine blk_alloc ?_ _)); refine blk_far ?_ NB367_368.out _; (with_reducible repeat (first | refine blk_drewN ?_ _ | refine blk_drew ?_ | refine blk_alloc ?_ _)); refine blk_put (cs := #[.int .i64 (wrap64 (a0_0 * 65536)), .int .i64 (wrap64 (a0_1 * 65536)), .int .i64 (wrap64 (a0_2 * 65536)), .int .i64 (wrap64 (a0_3 * 65536)), .int .i64 0, .int .i64 0]) ?_ 5 _ rfl; (with_reducible repeat (first | refine blk_drewN ?_ _ | refine blk_drew ?_ | refine blk_alloc ?_ _)); refine blk_put (cs := #[.int .i64 (wrap64 (a0_0 * 65536)), .int .i64 (wrap64 (a0_1 * 65536)), .int .i64 (wrap64 (a0_2 * 65536)), .int .i64 (wrap64 (a0_3 * 65536)), .int .i64 0, .int .i64 0]) ?_ 4 _ rfl; (with_reducible repeat (first | refine blk_drewN ?_ _ | refine blk_drew ?_ | refine blk_alloc ?_ _)); refine blk_put (cs := #[.int .i64 (wrap64 (a0_0 * 65536)), .int .i64 (wrap64 (a0_1 * 65536)), .int .i64 (wrap64 (a0_2 * 65536)), .int .i64 0, .int .i64 0, .int .i64 0]) ?_ 3 _ rfl; (with_reducible repeat (first | refine blk_drewN ?_ _ | refine blk_drew ?_ | refine blk_alloc ?_ _)); refine blk_put (cs := #[.int .i64 (wrap64 (a0_0 * 65536)), .int .i64 (wrap64 (a0_1 * 65536)), .int .i64 0, .int .i64 0, .int .i64 0, .int .i64 0]) ?_ 2 _ rfl; (with_reducible repeat (first | refine blk_drewN ?_ _ | refine blk_drew ?_ | refine blk_alloc ?_ _)); refine blk_put (cs := #[.int .i64 (wrap64 (a0_0 * 65536)), .int .i64 0, .int .i64 0, .int .i64 0, .int .i64 0, .int .i64 0]) ?_ 1 _ rfl; (with_reducible repeat (first | refine blk_drewN ?_ _ | refine blk_drew ?_ | refine blk_alloc ?_ _)); refine blk_put (cs := #[.int .i64 0, .int .i64 0, .int .i64 0, .int .i64 0, .int .i64 0, .int .i64 0]) ?_ 0 _ rfl; (with_reducible repeat (first | refine blk_drewN ?_ _ | refine blk_drew ?_ | refine blk_alloc ?_ _)); exact BK367.out) hb); have n3_ := Aside0.mk (blk_below (g := gb368) (o := .cells #[.int .i64 (wrap64 (a1_0 * 65536)), .int .i64 (wrap64 (a1_1 * 65536)), .int .i64 (wrap64 (a1_2 * 65536)), .int .i64 (wrap64 (a1_3 * 65536)), .int .i64 0, .int .i64 0] 23 (0, 0)) (by (with_reducible repeat (first | refine blk_drewN ?_ _ | refine blk_drew ?_ | refine blk_alloc ?_ _)); refine blk_put (cs := #[.int .i64 (wrap64 (a1_0 * 65536)), .int .i64 (wrap64 (a1_1 * 65536)), .int .i64 (wrap64 (a1_2 * 65536)), .int .i64 (wrap64 (a1_3 * 65536)), .int .i64 0, .int .i64 0]) ?_ 5 _ rfl; (with_reducible repeat (first | refine blk_drewN ?_ _ | refine blk_drew ?_ | refine blk_alloc ?_ _)); refine blk_put (cs := #[.int .i64 (wrap64 (a1_0 * 65536)), .int .i64 (wrap64 (a1_1 * 65536)), .int .i64 (wrap64 (a1_2 * 65536)), .int .i64 (wrap64 (a1_3 * 65536)), .int .i64 0, .int .i64 0]) ?_ 4 _ rfl; (with_reducible repeat (first | refine blk_drewN ?_ _ | refine blk_drew ?_ | refine blk_alloc ?_ _)); refine blk_put (cs := #[.int .i64 (wrap64 (a1_0 * 65536)), .int .i64 (wrap64 (a1_1 * 65536)), .int .i64 (wrap64 (a1_2 * 65536)), .int .i64 0, .int .i64 0, .int .i64 0]) ?_ 3 _ rfl; (with_reducible repeat (first | refine blk_drewN ?_ _ | refine blk_drew ?_ | refine blk_alloc ?_ _)); refine blk_put (cs := #[.int .i64 (wrap64 (a1_0 * 65536)), .int .i64 (wrap64 (a1_1 * 65536)), .int .i64 0, .int .i64 0, .int .i64 0, .int .i64 0]) ?_ 2 _ rfl; (with_reducible repeat (first | refine blk_drewN ?_ _ | refine blk_drew ?_ | refine blk_alloc ?_ _)); refine blk_put (cs := #[.int .i64 (wrap64 (a1_0 * 65536)), .int .i64 0, .int .i64 0, .int .i64 0, .int .i64 0, .int .i64 0]) ?_ 1 _ rfl; (with_reducible repeat (first | refine blk_drewN ?_ _ | refine blk_drew ?_ | refine blk_alloc ?_ _)); refine blk_put (cs := #[.int .i64 0, .int .i64 0, .int .i64 0, .int .i64 0, .int .i64 0, .int .i64 0]) ?_ 0 _ rfl; (with_reducible repeat (first | refine blk_drewN ?_ _ | refine blk_drew ?_ | refine blk_alloc ?_ _)); refine blk_far ?_ NB368_367.out _; (with_reducible repeat (first | refine blk_drewN ?_ _ | refine blk_drew ?_ | refine blk_alloc ?_ _)); refine blk_far ?_ NB368_367.out _; (with_reducible repeat (first | refine blk_drewN ?_ _ | refine blk_drew ?_ | refine blk_alloc ?_ _)); refine blk_far ?_ NB368_367.out _; (with_reducible repeat (first | refine blk_drewN ?_ _ | refine blk_drew ?_ | refine blk_alloc ?_ _)); refine blk_far ?_ NB368_367.out _; (with_reducible repeat (first | refine blk_drewN ?_ _ | refine blk_drew ?_ | refine blk_alloc ?_ _)); refine blk_far ?_ NB368_367.out _; (with_reducible repeat (first | refine blk_drewN ?_ _ | refine blk_drew ?_ | refine blk_alloc ?_ _)); refine blk_far ?_ NB368_367.out _; (with_reducible repeat (first | refine blk_drewN ?_ _ | refine blk_drew ?_ | refine blk_alloc ?_ _)); exact BK368.out) hb); have n4_ := Aside0.mk (below_step (by repeat (first | (with_reducible first | exact HB.out | apply below_alloc | apply pw_below_drewN | apply below_drew1 | refine below_set ?_ GE365.out | refine below_set ?_ GE366.out | refine below_set ?_ GE367.out | refine below_set ?_ GE368.out) | exact HB.out)) hb); clear BK365; clear BK366; clear BK367; clear BK368; clear HB; have BK365 := n0_; have BK366 := n1_; have BK367 := n2_; have BK368 := n3_; have HB := n4_; clear n0_ n1_ n2_ n3_ n4_; (try clear hb); (try clear hb2); (try clear hk); (try clear hi)) | ((with_reducible refine gate_dst (N := 8) rfl ?_); refine box_event ?hg (N := 8) ?hd (cs := #[.int .i64 0, .int .i64 0, .int .i64 0, .int .i64 0, .int .i64 0, .int .i64 0]) (t := 23) ?hr ?_; (case hd => rfl); (case hg => rfl); (case hr => first | (go_simp; done) | (go_simp; rfl)); intro gb380 hg w125 hbox hb; have n0_ := Aside0.mk (blk_below (g := gb365) (o := .cells #[.int .i64 a0_0, .int .i64 a0_1, .int .i64 a0_2, .int .i64 a0_3] 60 (0, 0)) (by (with_reducible repeat (first | refine blk_drewN ?_ _ | refine blk_drew ?_ | refine blk_alloc ?_ _)); exact BK365.out) hb); have n1_ := Aside0.mk (blk_below (g := gb366) (o := .cells #[.int .i64 a1_0, .int .i64 a1_1, .int .i64 a1_2, .int .i64 a1_3] 60 (0, 0)) (by (with_reducible repeat (first | refine blk_drewN ?_ _ | refine blk_drew ?_ | refine blk_alloc ?_ _)); exact BK366.out) hb); have n2_ := Aside0.mk (blk_below (g := gb367) (o := .cells #[.int .i64 (wrap64 (a0_0 * 65536)), .int .i64 (wrap64 (a0_1 * 65536)), .int .i64 (wrap64 (a0_2 * 65536)), .int .i64 (wrap64 (a0_3 * 65536)), .int .i64 0, .int .i64 0] 23 (0, 0)) (by (with_reducible repeat (first | refine blk_drewN ?_ _ | refine blk_drew ?_ | refine blk_alloc ?_ _)); exact BK367.out) hb); have n3_ := Aside0.mk (blk_below (g := gb368) (o := .cells #[.int .i64 (wrap64 (a1_0 * 65536)), .int .i64 (wrap64 (a1_1 * 65536)), .int .i64 (wrap64 (a1_2 * 65536)), .int .i64 (wrap64 (a1_3 * 65536)), .int .i64 0, .int .i64 0] 23 (0, 0)) (by (with_reducible repeat (first | refine blk_drewN ?_ _ | refine blk_drew ?_ | refine blk_alloc ?_ _)); exact BK368.out) hb); have n4_ := Aside0.mk (below_step (by repeat (first | (with_reducible first | exact HB.out | apply below_alloc | apply pw_below_drewN | apply below_drew1 | refine below_set ?_ GE365.out | refine below_set ?_ GE366.out | refine below_set ?_ GE367.out | refine below_set ?_ GE368.out) | exact HB.out)) hb); have n5_ := Aside0.mk (hbox); have n6_ := Aside0.mk ((by rw [hg]; exact (below_size (by repeat (first | (with_reducible first | exact HB.out | apply below_alloc | apply pw_below_drewN | apply below_drew1 | refine below_set ?_ GE365.out | refine below_set ?_ GE366.out | refine below_set ?_ GE367.out | refine below_set ?_ GE368.out) | exact HB.out))) : w.heap.size ≤ gb380)); have n7_ := Aside0.mk ((by rw [hg]; exact (below_size (by repeat (first | (with_reducible first | exact HB.out | apply below_alloc | apply pw_below_drewN | apply below_drew1 | refine below_set ?_ GE365.out | refine below_set ?_ GE366.out | refine below_set ?_ GE367.out | refine below_set ?_ GE368.out) | exact HB.out))) : w.heap.size ≤ gb380)); have n8_ := Aside0.mk ((by rw [hg]; exact Nat.ne_of_lt (blk_lt (g := gb365) (o := .cells #[.int .i64 a0_0, .int .i64 a0_1, .int .i64 a0_2, .int .i64 a0_3] 60 (0, 0)) (by (with_reducible repeat (first | refine blk_drewN ?_ _ | refine blk_drew ?_ | refine blk_alloc ?_ _)); exact BK365.out)) : gb365 ≠ gb380)); have n9_ := Aside0.mk ((by rw [hg]; exact Nat.ne_of_gt (blk_lt (g := gb365) (o := .cells #[.int .i64 a0_0, .int .i64 a0_1, .int .i64 a0_2, .int .i64 a0_3] 60 (0, 0)) (by (with_reducible repeat (first | refine blk_drewN ?_ _ | refine blk_drew ?_ | refine blk_alloc ?_ _)); exact BK365.out)) : gb380 ≠ gb365)); have n10_ := Aside0.mk ((by rw [hg]; exact Nat.ne_of_lt (blk_lt (g := gb366) (o := .cells #[.int .i64 a1_0, .int .i64 a1_1, .int .i64 a1_2, .int .i64 a1_3] 60 (0, 0)) (by (with_reducible repeat (first | refine blk_drewN ?_ _ | refine blk_drew ?_ | refine blk_alloc ?_ _)); exact BK366.out)) : gb366 ≠ gb380)); have n11_ := Aside0.mk ((by rw [hg]; exact Nat.ne_of_gt (blk_lt (g := gb366) (o := .cells #[.int .i64 a1_0, .int .i64 a1_1, .int .i64 a1_2, .int .i64 a1_3] 60 (0, 0)) (by (with_reducible repeat (first | refine blk_drewN ?_ _ | refine blk_drew ?_ | refine blk_alloc ?_ _)); exact BK366.out)) : gb380 ≠ gb366)); have n12_ := Aside0.mk ((by rw [hg]; exact Nat.ne_of_lt (blk_lt (g := gb367) (o := .cells #[.int .i64 (wrap64 (a0_0 * 65536)), .int .i64 (wrap64 (a0_1 * 65536)), .int .i64 (wrap64 (a0_2 * 65536)), .int .i64 (wrap64 (a0_3 * 65536)), .int .i64 0, .int .i64 0] 23 (0, 0)) (by (with_reducible repeat (first | refine blk_drewN ?_ _ | refine blk_drew ?_ | refine blk_alloc ?_ _)); exact BK367.out)) : gb367 ≠ gb380)); have n13_ := Aside0.mk ((by rw [hg]; exact Nat.ne_of_gt (blk_lt (g := gb367) (o := .cells #[.int .i64 (wrap64 (a0_0 * 65536)), .int .i64 (wrap64 (a0_1 * 65536)), .int .i64 (wrap64 (a0_2 * 65536)), .int .i64 (wrap64 (a0_3 * 65536)), .int .i64 0, .int .i64 0] 23 (0, 0)) (by (with_reducible repeat (first | refine blk_drewN ?_ _ | refine blk_drew ?_ | refine blk_alloc ?_ _)); exact BK367.out)) : gb380 ≠ gb367)); have n14_ := Aside0.mk ((by rw [hg]; exact Nat.ne_of_lt (blk_lt (g := gb368) (o := .cells #[.int .i64 (wrap64 (a1_0 * 65536)), .int .i64 (wrap64 (a1_1 * 65536)), .int .i64 (wrap64 (a1_2 * 65536)), .int .i64 (wrap64 (a1_3 * 65536)), .int .i64 0, .int .i64 0] 23 (0, 0)) (by (with_reducible repeat (first | refine blk_drewN ?_ _ | refine blk_drew ?_ | refine blk_alloc ?_ _)); exact BK368.out)) : gb368 ≠ gb380)); have n15_ := Aside0.mk ((by rw [hg]; exact Nat.ne_of_gt (blk_lt (g := gb368) (o := .cells #[.int .i64 (wrap64 (a1_0 * 65536)), .int .i64 (wrap64 (a1_1 * 65536)), .int .i64 (wrap64 (a1_2 * 65536)), .int .i64 (wrap64 (a1_3 * 65536)), .int .i64 0, .int .i64 0] 23 (0, 0)) (by (with_reducible repeat (first | refine blk_drewN ?_ _ | refine blk_drew ?_ | refine blk_alloc ?_ _)); exact BK368.out)) : gb380 ≠ gb368)); clear BK365; clear BK366; clear BK367; clear BK368; clear HB; have BK365 := n0_; have BK366 := n1_; have BK367 := n2_; have BK368 := n3_; have HB := n4_; have BK380 := n5_; have GW380 := n6_; have GE380 := n7_; have NB365_380 := n8_; have NB380_365 := n9_; have NB366_380 := n10_; have NB380_366 := n11_; have NB367_380 := n12_; have NB380_367 := n13_; have NB368_380 := n14_; have NB380_368 := n15_; clear n0_ n1_ n2_ n3_ n4_ n5_ n6_ n7_ n8_ n9_ n10_ n11_ n12_ n13_ n14_ n15_; clear hb hbox hg; have hnb126 := NB380_365.out; have hnc126 := NB365_380.out; have hnb127 := NB380_366.out; have hnc127 := NB366_380.out; have hnb128 := NB380_367.out; have hnc128 := NB367_380.out; have hnb129 := NB380_368.out; have hnc129 := NB368_380.out; have hcz130_0 : w125.cell? ⟨gb380, 0, none⟩ = some (.int .i64 0) := (blk_cell BK380.out 0).trans rfl; have hcz130_1 : w125.cell? ⟨gb380, 1, none⟩ = some (.int .i64 0) := (blk_cell BK380.out 1).trans rfl; have hcz130_2 : w125.cell? ⟨gb380, 2, none⟩ = some (.int .i64 0) := (blk_cell BK380.out 2).trans rfl; have hcz130_3 : w125.cell? ⟨gb380, 3, none⟩ = some (.int .i64 0) := (blk_cell BK380.out 3).trans rfl; have hcz130_4 : w125.cell? ⟨gb380, 4, none⟩ = some (.int .i64 0) := (blk_cell BK380.out 4).trans rfl; have hcz130_5 : w125.cell? ⟨gb380, 5, none⟩ = some (.int .i64 0) := (blk_cell BK380.out 5).trans rfl; have hfz130_0 := blk_frozen BK380.out 0; have hfz130_1 := blk_frozen BK380.out 1; have hfz130_2 := blk_frozen BK380.out 2; have hfz130_3 := blk_frozen BK380.out 3; have hfz130_4 := blk_frozen BK380.out 4; have hfz130_5 := blk_frozen BK380.out 5) | ((with_reducible refine gate_callee (f := 21) rfl ?_); refine goesL_ (some 75) rfl rfl Try.func21 (by kernel_rfl) rfl #[] rfl (by (try simp only [List.map_toArray, List.map_cons, List.map_nil]); first | done | rfl | (simp only [List.length_drop, List.length_take]; rfl)) ?_; (with_reducible refine (limnerlaw04_awake.calls k1  t381 _ A113.out).mono ?_); rintro e w131 ⟨rfl, hb⟩; refine ⟨_, rfl, ?_⟩; have n0_ := Aside0.mk (blk_below (g := gb365) (o := .cells #[.int .i64 a0_0, .int .i64 a0_1, .int .i64 a0_2, .int .i64 a0_3] 60 (0, 0)) (by (with_reducible repeat (first | refine blk_drewN ?_ _ | refine blk_drew ?_ | refine blk_alloc ?_ _)); refine blk_far ?_ NB365_380.out _; (with_reducible repeat (first | refine blk_drewN ?_ _ | refine blk_drew ?_ | refine blk_alloc ?_ _)); refine blk_far ?_ NB365_380.out _; (with_reducible repeat (first | refine blk_drewN ?_ _ | refine blk_drew ?_ | refine blk_alloc ?_ _)); refine blk_far ?_ NB365_380.out _; (with_reducible repeat (first | refine blk_drewN ?_ _ | refine blk_drew ?_ | refine blk_alloc ?_ _)); refine blk_far ?_ NB365_380.out _; (with_reducible repeat (first | refine blk_drewN ?_ _ | refine blk_drew ?_ | refine blk_alloc ?_ _)); refine blk_far ?_ NB365_380.out _; (with_reducible repeat (first | refine blk_drewN ?_ _ | refine blk_drew ?_ | refine blk_alloc ?_ _)); refine blk_far ?_ NB365_380.out _; (with_reducible repeat (first | refine blk_drewN ?_ _ | refine blk_drew ?_ | refine blk_alloc ?_ _)); exact BK365.out) hb); have n1_ := Aside0.mk (blk_below (g := gb366) (o := .cells #[.int .i64 a1_0, .int .i64 a1_1, .int .i64 a1_2, .int .i64 a1_3] 60 (0, 0)) (by (with_reducible repeat (first | refine blk_drewN ?_ _ | refine blk_drew ?_ | refine blk_alloc ?_ _)); refine blk_far ?_ NB366_380.out _; (with_reducible repeat (first | refine blk_drewN ?_ _ | refine blk_drew ?_ | refine blk_alloc ?_ _)); refine blk_far ?_ NB366_380.out _; (with_reducible repeat (first | refine blk_drewN ?_ _ | refine blk_drew ?_ | refine blk_alloc ?_ _)); refine blk_far ?_ NB366_380.out _; (with_reducible repeat (first | refine blk_drewN ?_ _ | refine blk_drew ?_ | refine blk_alloc ?_ _)); refine blk_far ?_ NB366_380.out _; (with_reducible repeat (first | refine blk_drewN ?_ _ | refine blk_drew ?_ | refine blk_alloc ?_ _)); refine blk_far ?_ NB366_380.out _; (with_reducible repeat (first | refine blk_drewN ?_ _ | refine blk_drew ?_ | refine blk_alloc ?_ _)); refine blk_far ?_ NB366_380.out _; (with_reducible repeat (first | refine blk_drewN ?_ _ | refine blk_drew ?_ | refine blk_alloc ?_ _)); exact BK366.out) hb); have n2_ := Aside0.mk (blk_below (g := gb367) (o := .cells #[.int .i64 (wrap64 (a0_0 * 65536)), .int .i64 (wrap64 (a0_1 * 65536)), .int .i64 (wrap64 (a0_2 * 65536)), .int .i64 (wrap64 (a0_3 * 65536)), .int .i64 0, .int .i64 0] 23 (0, 0)) (by (with_reducible repeat (first | refine blk_drewN ?_ _ | refine blk_drew ?_ | refine blk_alloc ?_ _)); refine blk_far ?_ NB367_380.out _; (with_reducible repeat (first | refine blk_drewN ?_ _ | refine blk_drew ?_ | refine blk_alloc ?_ _)); refine blk_far ?_ NB367_380.out _; (with_reducible repeat (first | refine blk_drewN ?_ _ | refine blk_drew ?_ | refine blk_alloc ?_ _)); refine blk_far ?_ NB367_380.out _; (with_reducible repeat (first | refine blk_drewN ?_ _ | refine blk_drew ?_ | refine blk_alloc ?_ _)); refine blk_far ?_ NB367_380.out _; (with_reducible repeat (first | refine blk_drewN ?_ _ | refine blk_drew ?_ | refine blk_alloc ?_ _)); refine blk_far ?_ NB367_380.out _; (with_reducible repeat (first | refine blk_drewN ?_ _ | refine blk_drew ?_ | refine blk_alloc ?_ _)); refine blk_far ?_ NB367_380.out _; (with_reducible repeat (first | refine blk_drewN ?_ _ | refine blk_drew ?_ | refine blk_alloc ?_ _)); exact BK367.out) hb); have n3_ := Aside0.mk (blk_below (g := gb368) (o := .cells #[.int .i64 (wrap64 (a1_0 * 65536)), .int .i64 (wrap64 (a1_1 * 65536)), .int .i64 (wrap64 (a1_2 * 65536)), .int .i64 (wrap64 (a1_3 * 65536)), .int .i64 0, .int .i64 0] 23 (0, 0)) (by (with_reducible repeat (first | refine blk_drewN ?_ _ | refine blk_drew ?_ | refine blk_alloc ?_ _)); refine blk_far ?_ NB368_380.out _; (with_reducible repeat (first | refine blk_drewN ?_ _ | refine blk_drew ?_ | refine blk_alloc ?_ _)); refine blk_far ?_ NB368_380.out _; (with_reducible repeat (first | refine blk_drewN ?_ _ | refine blk_drew ?_ | refine blk_alloc ?_ _)); refine blk_far ?_ NB368_380.out _; (with_reducible repeat (first | refine blk_drewN ?_ _ | refine blk_drew ?_ | refine blk_alloc ?_ _)); refine blk_far ?_ NB368_380.out _; (with_reducible repeat (first | refine blk_drewN ?_ _ | refine blk_drew ?_ | refine blk_alloc ?_ _)); refine blk_far ?_ NB368_380.out _; (with_reducible repeat (first | refine blk_drewN ?_ _ | refine blk_drew ?_ | refine blk_alloc ?_ _)); refine blk_far ?_ NB368_380.out _; (with_reducible repeat (first | refine blk_drewN ?_ _ | refine blk_drew ?_ | refine blk_alloc ?_ _)); exact BK368.out) hb); have n4_ := Aside0.mk (blk_below (g := gb380) (o := .cells #[.int .i64 t373, .int .i64 t374, .int .i64 t375, .int .i64 t376, .int .i64 t377, .int .i64 t378] 23 (0, 0)) (by (with_reducible repeat (first | refine blk_drewN ?_ _ | refine blk_drew ?_ | refine blk_alloc ?_ _)); refine blk_put (cs := #[.int .i64 t373, .int .i64 t374, .int .i64 t375, .int .i64 t376, .int .i64 t377, .int .i64 0]) ?_ 5 _ rfl; (with_reducible repeat (first | refine blk_drewN ?_ _ | refine blk_drew ?_ | refine blk_alloc ?_ _)); refine blk_put (cs := #[.int .i64 t373, .int .i64 t374, .int .i64 t375, .int .i64 t376, .int .i64 0, .int .i64 0]) ?_ 4 _ rfl; (with_reducible repeat (first | refine blk_drewN ?_ _ | refine blk_drew ?_ | refine blk_alloc ?_ _)); refine blk_put (cs := #[.int .i64 t373, .int .i64 t374, .int .i64 t375, .int .i64 0, .int .i64 0, .int .i64 0]) ?_ 3 _ rfl; (with_reducible repeat (first | refine blk_drewN ?_ _ | refine blk_drew ?_ | refine blk_alloc ?_ _)); refine blk_put (cs := #[.int .i64 t373, .int .i64 t374, .int .i64 0, .int .i64 0, .int .i64 0, .int .i64 0]) ?_ 2 _ rfl; (with_reducible repeat (first | refine blk_drewN ?_ _ | refine blk_drew ?_ | refine blk_alloc ?_ _)); refine blk_put (cs := #[.int .i64 t373, .int .i64 0, .int .i64 0, .int .i64 0, .int .i64 0, .int .i64 0]) ?_ 1 _ rfl; (with_reducible repeat (first | refine blk_drewN ?_ _ | refine blk_drew ?_ | refine blk_alloc ?_ _)); refine blk_put (cs := #[.int .i64 0, .int .i64 0, .int .i64 0, .int .i64 0, .int .i64 0, .int .i64 0]) ?_ 0 _ rfl; (with_reducible repeat (first | refine blk_drewN ?_ _ | refine blk_drew ?_ | refine blk_alloc ?_ _)); exact BK380.out) hb); have n5_ := Aside0.mk (below_step (by repeat (first | (with_reducible first | exact HB.out | apply below_alloc | apply pw_below_drewN | apply below_drew1 | refine below_set ?_ GE365.out | refine below_set ?_ GE366.out | refine below_set ?_ GE367.out | refine below_set ?_ GE368.out | refine below_set ?_ GE380.out) | exact HB.out)) hb); clear BK365; clear BK366; clear BK367; clear BK368; clear BK380; clear HB; have BK365 := n0_; have BK366 := n1_; have BK367 := n2_; have BK368 := n3_; have BK380 := n4_; have HB := n5_; clear n0_ n1_ n2_ n3_ n4_ n5_; (try clear hb); (try clear hb2); (try clear hk); (try clear hi)))
          go_ret
          exact ⟨by first | rfl | (simp [errW_none, errW_some] <;> rfl) | (simp [*, errW_none, errW_some] <;> rfl), by repeat (first | (with_reducible first | exact HB.out | apply below_alloc | apply pw_below_drewN | apply below_drew1 | refine below_set ?_ GE365.out | refine below_set ?_ GE366.out | refine below_set ?_ GE367.out | refine below_set ?_ GE368.out | refine below_set ?_ GE380.out) | exact HB.out)⟩

/-- THE ONE PURE STATEMENT of limnerlaw04_AffineDets. -/
def limnerlaw04_AffineDets.Pure : Prop := ∀ (a0_0 : Int) (a0_1 : Int) (a0_2 : Int) (a0_3 : Int) (a1_0 : Int) (a1_1 : Int) (a1_2 : Int) (a1_3 : Int), ((-9223372036854775808 ≤ a0_0 ∧ a0_0 ≤ 9223372036854775807) ∧ (-9223372036854775808 ≤ a0_1 ∧ a0_1 ≤ 9223372036854775807) ∧ (-9223372036854775808 ≤ a0_2 ∧ a0_2 ≤ 9223372036854775807) ∧ (-9223372036854775808 ≤ a0_3 ∧ a0_3 ≤ 9223372036854775807)) → ((-9223372036854775808 ≤ a1_0 ∧ a1_0 ≤ 9223372036854775807) ∧ (-9223372036854775808 ≤ a1_1 ∧ a1_1 ≤ 9223372036854775807) ∧ (-9223372036854775808 ≤ a1_2 ∧ a1_2 ≤ 9223372036854775807) ∧ (-9223372036854775808 ≤ a1_3 ∧ a1_3 ≤ 9223372036854775807)) → ∃ k, limnerlaw04_AffineDets.f k a0_0 a0_1 a0_2 a0_3 a1_0 a1_1 a1_2 a1_3 = some true
theorem limnerlaw04_AffineDets.walk (P : limnerlaw04_AffineDets.Pure) (a0_0 : Int) (a0_1 : Int) (a0_2 : Int) (a0_3 : Int) (a1_0 : Int) (a1_1 : Int) (a1_2 : Int) (a1_3 : Int) (w : World)  (y0 : ((-9223372036854775808 ≤ a0_0 ∧ a0_0 ≤ 9223372036854775807) ∧ (-9223372036854775808 ≤ a0_1 ∧ a0_1 ≤ 9223372036854775807) ∧ (-9223372036854775808 ≤ a0_2 ∧ a0_2 ≤ 9223372036854775807) ∧ (-9223372036854775808 ≤ a0_3 ∧ a0_3 ≤ 9223372036854775807))) (y1 : ((-9223372036854775808 ≤ a1_0 ∧ a1_0 ≤ 9223372036854775807) ∧ (-9223372036854775808 ≤ a1_1 ∧ a1_1 ≤ 9223372036854775807) ∧ (-9223372036854775808 ≤ a1_2 ∧ a1_2 ≤ 9223372036854775807) ∧ (-9223372036854775808 ≤ a1_3 ∧ a1_3 ≤ 9223372036854775807))) :
    Calls Try.prog 8 #[.agg #[.int .i64 a0_0, .int .i64 a0_1, .int .i64 a0_2, .int .i64 a0_3], .agg #[.int .i64 a1_0, .int .i64 a1_1, .int .i64 a1_2, .int .i64 a1_3]] w fun e w' => e = .returned (.bool true) ∧ Below w.heap.size w w' := by
  obtain ⟨k, h⟩ := P a0_0 a0_1 a0_2 a0_3 a1_0 a1_1 a1_2 a1_3 y0 y1
  refine (limnerlaw04_AffineDets.calls k a0_0 a0_1 a0_2 a0_3 a1_0 a1_1 a1_2 a1_3 true w  h).mono ?_
  rintro e w' ⟨rfl, hd⟩
  exact ⟨rfl, hd⟩

end Go.Proofs.Ytkneefkhggacmaa.X
