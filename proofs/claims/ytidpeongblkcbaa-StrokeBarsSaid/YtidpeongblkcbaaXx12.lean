/- Functions of this part, each as a plain Lean function, and a proof that the machine comes to just what it says; written by a program of this session (xprint.py, over the kit's print). Conditions: those that each theorem names. -/
import Derived.Test.YtidpeongblkcbaaXx0
import Derived.Test.YtidpeongblkcbaaXx1
import Derived.Test.YtidpeongblkcbaaXx6
import Derived.Test.YtidpeongblkcbaaXx7
import Derived.Test.YtidpeongblkcbaaXx8
import Derived.Test.YtidpeongblkcbaaXx10
import Derived.Test.YtidpeongblkcbaaXx11
namespace Go.Proofs.Ytidpeongblkcbaa.X
open Go.Proofs.Ytidpeongblkcbaa
open Go.RowKit Go.Proofs.YtidpeongblkcbaaW.PrintWords Go.Proofs.YtidpeongblkcbaaW.PrintLast Go.Proofs.YtidpeongblkcbaaW.PrintMore
attribute [local go_sem] max2_int min2_int max_two min_two max_three min_three max_four min_four   -- for this text's walks alone
set_option linter.unusedVariables false
set_option linter.unusedSimpArgs false

attribute [local go_sem high] eqA23
/-! ### limnerlaw07_StrokeBars: function 3 -/
def limnerlaw07_StrokeBars.j0 : Nat → Int → List (S23) → Int → Bool → Int → Int → Int → Int → Option (Bool)
  | 0, _, _, _, _, _, _, _, _ => none
  | k + 1, x2, x7, x8, x17, x242000, x242001, x243000, x243001 => if x17 = true then (if x8 = 30 then (if (x7.length : Int) = 0 then ((limnerlaw07_awake.f k).bind fun t249 => (some t249)) else (none)) else (none)) else ((limnerlaw07_ref.f x242000 x242001).bind fun bt250 => ((limnerlaw07_ref.f x243000 x243001).bind fun bt252 => ((limnerref07_Long.f bt250.1 bt250.2 bt252.1 bt252.2).bind fun t254 => (if t254 = true then (if x8 = 10 then (if (x7.length : Int) = 0 then ((limnerlaw07_awake.f k).bind fun t255 => (some t255)) else (none)) else (none)) else ((limnerlaw07_ref.f x242000 x242001).bind fun bt256 => ((limnerlaw07_ref.f x243000 x243001).bind fun bt258 => ((limnerref07_Bar.f k bt256.1 bt256.2 bt258.1 bt258.2 x2).bind fun t260 => ((limnerref07_In.f k t260).bind fun t263 => (if t263 = true then (if x8 = 0 then ((limnerlaw07_same.f k x7 t260).bind fun t264 => (if t264 = true then ((limnerlaw07_awake.f k).bind fun t265 => (some t265)) else (none))) else (none)) else (if x8 = 10 then (if (x7.length : Int) = 0 then ((limnerlaw07_awake.f k).bind fun t266 => (some t266)) else (none)) else (none)))))))))))
def limnerlaw07_StrokeBars.f (k : Nat) (a0_0 : Int) (a0_1 : Int) (a1_0 : Int) (a1_1 : Int) (a2 : Int) : Option (Bool) := (stroke_Bar.f k a0_0 a0_1 a1_0 a1_1 a2).bind fun bt243 => (if a2 < 1 then (limnerlaw07_StrokeBars.j0 k a2 bt243.1 bt243.2 true a0_0 a0_1 a1_0 a1_1) else (if a2 > 32768 then (limnerlaw07_StrokeBars.j0 k a2 bt243.1 bt243.2 true a0_0 a0_1 a1_0 a1_1) else ((limnerlaw07_in.f a0_0 a0_1).bind fun t247 => (if t247 = true then ((limnerlaw07_in.f a1_0 a1_1).bind fun t248 => (if t248 = true then (limnerlaw07_StrokeBars.j0 k a2 bt243.1 bt243.2 (a0_0 == a1_0 && (a0_1 == a1_1)) a0_0 a0_1 a1_0 a1_1) else (limnerlaw07_StrokeBars.j0 k a2 bt243.1 bt243.2 true a0_0 a0_1 a1_0 a1_1))) else (limnerlaw07_StrokeBars.j0 k a2 bt243.1 bt243.2 true a0_0 a0_1 a1_0 a1_1)))))
theorem limnerlaw07_StrokeBars.mono_l : ∀ k, (∀ y0 y1 y2 y3 y4 y5 y6 y7, LeO (limnerlaw07_StrokeBars.j0 k y0 y1 y2 y3 y4 y5 y6 y7) (limnerlaw07_StrokeBars.j0 (k + 1) y0 y1 y2 y3 y4 y5 y6 y7))
  | 0 => fun _ _ _ _ _ _ _ _ r h => by simp [limnerlaw07_StrokeBars.j0] at h
  | k + 1 => by
    have ih0 := limnerlaw07_StrokeBars.mono_l k
    · intro y0 y1 y2 y3 y4 y5 y6 y7
      unfold limnerlaw07_StrokeBars.j0
      repeat' first
      | (with_reducible exact ih0 _ _ _ _ _ _ _ _)
      | (with_reducible exact limnerlaw07_awake.mono _)
      | (with_reducible exact limnerlaw07_same.mono _ _ _)
      | (with_reducible exact limnerref07_Bar.mono _ _ _ _ _ _)
      | (with_reducible exact limnerref07_In.mono _ _)
      | (with_reducible exact stroke_Bar.mono _ _ _ _ _ _)
      | (with_reducible exact LeO.refl _)
      | (with_reducible exact LeO.none _)
      | (with_reducible refine LeO.ite ?_ ?_)
      | (with_reducible refine LeO.bind ?_ (fun _ => ?_))
      | exact ih0 _ _ _ _ _ _ _ _
      | exact limnerlaw07_awake.mono _
      | exact limnerlaw07_same.mono _ _ _
      | exact limnerref07_Bar.mono _ _ _ _ _ _
      | exact limnerref07_In.mono _ _
      | exact stroke_Bar.mono _ _ _ _ _ _
      | exact LeO.none _
      | refine LeO.ite ?_ ?_
      | refine LeO.bind ?_ (fun _ => ?_)
theorem limnerlaw07_StrokeBars.mono : ∀ a0 a1 a2 a3 a4 k, LeO (limnerlaw07_StrokeBars.f k a0 a1 a2 a3 a4) (limnerlaw07_StrokeBars.f (k + 1) a0 a1 a2 a3 a4) := by
  intro a0 a1 a2 a3 a4 k
  have ih0 := limnerlaw07_StrokeBars.mono_l k
  unfold limnerlaw07_StrokeBars.f
  repeat' first
      | (with_reducible exact ih0 _ _ _ _ _ _ _ _)
      | (with_reducible exact limnerlaw07_awake.mono _)
      | (with_reducible exact limnerlaw07_same.mono _ _ _)
      | (with_reducible exact limnerref07_Bar.mono _ _ _ _ _ _)
      | (with_reducible exact limnerref07_In.mono _ _)
      | (with_reducible exact stroke_Bar.mono _ _ _ _ _ _)
      | (with_reducible exact LeO.refl _)
      | (with_reducible exact LeO.none _)
      | (with_reducible refine LeO.ite ?_ ?_)
      | (with_reducible refine LeO.bind ?_ (fun _ => ?_))
      | exact ih0 _ _ _ _ _ _ _ _
      | exact limnerlaw07_awake.mono _
      | exact limnerlaw07_same.mono _ _ _
      | exact limnerref07_Bar.mono _ _ _ _ _ _
      | exact limnerref07_In.mono _ _
      | exact stroke_Bar.mono _ _ _ _ _ _
      | exact LeO.none _
      | refine LeO.ite ?_ ?_
      | refine LeO.bind ?_ (fun _ => ?_)
set_option maxHeartbeats 8000000 in
set_option maxRecDepth 100000 in
theorem limnerlaw07_StrokeBars.calls (k : Nat) (a0_0 : Int) (a0_1 : Int) (a1_0 : Int) (a1_1 : Int) (a2 : Int) (r : Bool) (w : World) (h : limnerlaw07_StrokeBars.f k a0_0 a0_1 a1_0 a1_1 a2 = some r) :
    Calls Try.prog 3 #[.agg #[.int .i64 a0_0, .int .i64 a0_1], .agg #[.int .i64 a1_0, .int .i64 a1_1], .int .i64 a2] w fun e w' => e = .returned (.bool r) ∧ Below w.heap.size w w' := by
  have hu23 := Try.underlying23
  have HB := Aside0.mk (Below.refl w.heap.size w)
  have H : ((stroke_Bar.f k a0_0 a0_1 a1_0 a1_1 a2).bind fun bt243 => (if a2 < 1 then (limnerlaw07_StrokeBars.j0 k a2 bt243.1 bt243.2 true a0_0 a0_1 a1_0 a1_1) else (if a2 > 32768 then (limnerlaw07_StrokeBars.j0 k a2 bt243.1 bt243.2 true a0_0 a0_1 a1_0 a1_1) else ((limnerlaw07_in.f a0_0 a0_1).bind fun t247 => (if t247 = true then ((limnerlaw07_in.f a1_0 a1_1).bind fun t248 => (if t248 = true then (limnerlaw07_StrokeBars.j0 k a2 bt243.1 bt243.2 (a0_0 == a1_0 && (a0_1 == a1_1)) a0_0 a0_1 a1_0 a1_1) else (limnerlaw07_StrokeBars.j0 k a2 bt243.1 bt243.2 true a0_0 a0_1 a1_0 a1_1))) else (limnerlaw07_StrokeBars.j0 k a2 bt243.1 bt243.2 true a0_0 a0_1 a1_0 a1_1)))))) = some r := h
  clear h
  replace H := Option.bind_eq_some_iff.mp H
  obtain ⟨⟨t243, t246⟩, A40, H⟩ := H
  replace H : (if a2 < 1 then (limnerlaw07_StrokeBars.j0 k a2 t243 t246 true a0_0 a0_1 a1_0 a1_1) else (if a2 > 32768 then (limnerlaw07_StrokeBars.j0 k a2 t243 t246 true a0_0 a0_1 a1_0 a1_1) else ((limnerlaw07_in.f a0_0 a0_1).bind fun t247 => (if t247 = true then ((limnerlaw07_in.f a1_0 a1_1).bind fun t248 => (if t248 = true then (limnerlaw07_StrokeBars.j0 k a2 t243 t246 (a0_0 == a1_0 && (a0_1 == a1_1)) a0_0 a0_1 a1_0 a1_1) else (limnerlaw07_StrokeBars.j0 k a2 t243 t246 true a0_0 a0_1 a1_0 a1_1))) else (limnerlaw07_StrokeBars.j0 k a2 t243 t246 true a0_0 a0_1 a1_0 a1_1))))) = some r := H
  have A4 := Aside0.mk A40
  clear A40
  have HC5 := Aside0.mk H
  clear H
  go_enter Try.func3, Try.ntmps3
  go_upto_region 2 with (first | ((with_reducible refine gate_dst (N := 3) rfl ?_); (try (refine gate_guard (by rfl) ?_; dsimp only)); refine box_event ?hg (N := 3) ?hd (cs := #[.int .i64 a0_0, .int .i64 a0_1]) (t := 23) ?hr ?_; (case hd => rfl); (case hg => rfl); (case hr => first | (go_simp; done) | (go_simp; rfl)); intro gb241 hg w6 hbox hb; have n0_ := Aside0.mk (below_step (by repeat (first | (with_reducible first | exact HB.out | apply below_alloc | apply pw_below_drewN | apply below_drew1) | exact HB.out)) hb); have n1_ := Aside0.mk (hbox); have n2_ := Aside0.mk ((by rw [hg]; exact (below_size (by repeat (first | (with_reducible first | exact HB.out | apply below_alloc | apply pw_below_drewN | apply below_drew1) | exact HB.out))) : w.heap.size ≤ gb241)); have n3_ := Aside0.mk ((by rw [hg]; exact (below_size (by repeat (first | (with_reducible first | exact HB.out | apply below_alloc | apply pw_below_drewN | apply below_drew1) | exact HB.out))) : w.heap.size ≤ gb241)); clear HB; have HB := n0_; have BK241 := n1_; have GW241 := n2_; have GE241 := n3_; clear n0_ n1_ n2_ n3_; clear hb hbox hg) | ((with_reducible refine gate_dst (N := 4) rfl ?_); (try (refine gate_guard (by rfl) ?_; dsimp only)); refine box_event ?hg (N := 4) ?hd (cs := #[.int .i64 a1_0, .int .i64 a1_1]) (t := 23) ?hr ?_; (case hd => rfl); (case hg => rfl); (case hr => first | (go_simp; done) | (go_simp; rfl)); intro gb242 hg w7 hbox hb; have n0_ := Aside0.mk (blk_below (g := gb241) (o := .cells #[.int .i64 a0_0, .int .i64 a0_1] 23 (0, 0)) (by (with_reducible repeat (first | refine blk_drewN ?_ _ | refine blk_drew ?_ | refine blk_alloc ?_ _)); exact BK241.out) hb); have n1_ := Aside0.mk (below_step (by repeat (first | (with_reducible first | exact HB.out | apply below_alloc | apply pw_below_drewN | apply below_drew1 | refine below_set ?_ GE241.out) | exact HB.out)) hb); have n2_ := Aside0.mk (hbox); have n3_ := Aside0.mk ((by rw [hg]; exact (below_size (by repeat (first | (with_reducible first | exact HB.out | apply below_alloc | apply pw_below_drewN | apply below_drew1 | refine below_set ?_ GE241.out) | exact HB.out))) : w.heap.size ≤ gb242)); have n4_ := Aside0.mk ((by rw [hg]; exact (below_size (by repeat (first | (with_reducible first | exact HB.out | apply below_alloc | apply pw_below_drewN | apply below_drew1 | refine below_set ?_ GE241.out) | exact HB.out))) : w.heap.size ≤ gb242)); have n5_ := Aside0.mk ((by rw [hg]; exact Nat.ne_of_lt (blk_lt (g := gb241) (o := .cells #[.int .i64 a0_0, .int .i64 a0_1] 23 (0, 0)) (by (with_reducible repeat (first | refine blk_drewN ?_ _ | refine blk_drew ?_ | refine blk_alloc ?_ _)); exact BK241.out)) : gb241 ≠ gb242)); have n6_ := Aside0.mk ((by rw [hg]; exact Nat.ne_of_gt (blk_lt (g := gb241) (o := .cells #[.int .i64 a0_0, .int .i64 a0_1] 23 (0, 0)) (by (with_reducible repeat (first | refine blk_drewN ?_ _ | refine blk_drew ?_ | refine blk_alloc ?_ _)); exact BK241.out)) : gb242 ≠ gb241)); clear BK241; clear HB; have BK241 := n0_; have HB := n1_; have BK242 := n2_; have GW242 := n3_; have GE242 := n4_; have NB241_242 := n5_; have NB242_241 := n6_; clear n0_ n1_ n2_ n3_ n4_ n5_ n6_; clear hb hbox hg; have hnb8 := NB241_242.out; have hnc8 := NB242_241.out; have hcz9_0 : w7.cell? ⟨gb241, 0, none⟩ = some (.int .i64 a0_0) := (blk_cell BK241.out 0).trans rfl; have hcz9_1 : w7.cell? ⟨gb241, 1, none⟩ = some (.int .i64 a0_1) := (blk_cell BK241.out 1).trans rfl; have hfz9_0 := blk_frozen BK241.out 0; have hfz9_1 := blk_frozen BK241.out 1; have hcz10_0 : w7.cell? ⟨gb242, 0, none⟩ = some (.int .i64 a1_0) := (blk_cell BK242.out 0).trans rfl; have hcz10_1 : w7.cell? ⟨gb242, 1, none⟩ = some (.int .i64 a1_1) := (blk_cell BK242.out 1).trans rfl; have hfz10_0 := blk_frozen BK242.out 0; have hfz10_1 := blk_frozen BK242.out 1) | ((with_reducible refine gate_callee (f := 4) rfl ?_); refine goesL_ (some 14) rfl rfl Try.func4 (by kernel_rfl) rfl #[.agg #[.int .i64 a0_0, .int .i64 a0_1], .agg #[.int .i64 a1_0, .int .i64 a1_1], .int .i64 a2] rfl (by (try simp only [List.map_toArray, List.map_cons, List.map_nil]); first | done | rfl | (simp only [List.length_drop, List.length_take]; rfl)) ?_; (with_reducible refine (stroke_Bar.calls k a0_0 a0_1 a1_0 a1_1 a2 t243 t246 _ A4.out).mono ?_); rintro e w11 ⟨v244, rfl, ho0, hb⟩; refine ⟨_, rfl, ?_⟩; have n0_ := Aside0.mk (Kd.R_lower (Kd.R_newB (Kd.R_newB ho0 (g := gb241) (o := .cells #[.int .i64 a0_0, .int .i64 a0_1] 23 (0, 0)) (by (with_reducible repeat (first | refine blk_drewN ?_ _ | refine blk_drew ?_ | refine blk_alloc ?_ _)); exact BK241.out)) (g := gb242) (o := .cells #[.int .i64 a1_0, .int .i64 a1_1] 23 (0, 0)) (by (with_reducible repeat (first | refine blk_drewN ?_ _ | refine blk_drew ?_ | refine blk_alloc ?_ _)); exact BK242.out)) (below_size (by repeat (first | (with_reducible first | exact HB.out | apply below_alloc | apply pw_below_drewN | apply below_drew1 | refine below_set ?_ GE241.out | refine below_set ?_ GE242.out) | exact HB.out)))); have n1_ := Aside0.mk (blk_below (g := gb241) (o := .cells #[.int .i64 a0_0, .int .i64 a0_1] 23 (0, 0)) (by (with_reducible repeat (first | refine blk_drewN ?_ _ | refine blk_drew ?_ | refine blk_alloc ?_ _)); exact BK241.out) hb); have n2_ := Aside0.mk (blk_below (g := gb242) (o := .cells #[.int .i64 a1_0, .int .i64 a1_1] 23 (0, 0)) (by (with_reducible repeat (first | refine blk_drewN ?_ _ | refine blk_drew ?_ | refine blk_alloc ?_ _)); exact BK242.out) hb); have n3_ := Aside0.mk (below_step (by repeat (first | (with_reducible first | exact HB.out | apply below_alloc | apply pw_below_drewN | apply below_drew1 | refine below_set ?_ GE241.out | refine below_set ?_ GE242.out) | exact HB.out)) hb); clear BK241; clear BK242; clear HB; have HO245 := n0_; have BK241 := n1_; have BK242 := n2_; have HB := n3_; clear n0_ n1_ n2_ n3_; (try clear hb); (try clear hb2); (try clear hk); (try clear hi); (try clear ho0)))
  (try simp only [Act.put, List.setIfInBounds_toArray, List.set_cons_zero, List.set_cons_succ])
  go_cut [17] (fun v17 wc => ∃ (kq : Nat) (x17_4 : Bool), v17 = .bool x17_4 ∧ Aside0 (limnerlaw07_StrokeBars.j0 kq a2 t243 t246 x17_4 a0_0 a0_1 a1_0 a1_1 = some r) ∧ Aside0 (kq ≤ k) ∧ Aside0 (Kd.R k23 23 wc w.heap.size (fun k_ => k_ ≠ gb241 ∧ k_ ≠ gb242) v244 t243) ∧ Aside0 (wc.heap[gb241]? = some (.cells #[.int .i64 a0_0, .int .i64 a0_1] 23 (0, 0))) ∧ Aside0 (wc.heap[gb242]? = some (.cells #[.int .i64 a1_0, .int .i64 a1_1] 23 (0, 0))) ∧ Aside0 (Below w.heap.size w wc))
  case first =>
    have H := HC5.out
    clear HC5
    by_cases c12 : a2 < 1
    · rw [if_pos c12] at H
      have c12b0 : decide (a2 < 1) = true := decide_eq_true c12
      clear c12
      (first | rw [c12b0] | (simp only [i64_w, i32_w]; rw [c12b0]) | skip)
      have H' := Aside0.mk H
      clear H
      go_wp2
      go_meet
      case rel => exact ⟨_, (true), (by first | rfl | (simp; done) | (simp [*]; done)), H', ⟨by first | omega | exact Nat.le_refl _⟩, ⟨by (with_reducible repeat (first | apply Kd.R_alloc | apply Kd.R_drewN | apply Kd.R_drew)); exact Kd.R_mono HO245.out (fun _ hk => ⟨hk.1.2, hk.2⟩)⟩, ⟨by (with_reducible repeat (first | refine blk_drewN ?_ _ | refine blk_drew ?_ | refine blk_alloc ?_ _)); exact BK241.out⟩, ⟨by (with_reducible repeat (first | refine blk_drewN ?_ _ | refine blk_drew ?_ | refine blk_alloc ?_ _)); exact BK242.out⟩, ⟨by repeat (first | (with_reducible first | exact HB.out | apply below_alloc | apply pw_below_drewN | apply below_drew1 | refine below_set ?_ GE241.out | refine below_set ?_ GE242.out) | exact HB.out)⟩⟩
    · rw [if_neg c12] at H
      have c12b0 : decide (a2 < 1) = false := decide_eq_false c12
      clear c12
      (first | rw [c12b0] | (simp only [i64_w, i32_w]; rw [c12b0]) | skip)
      by_cases c13 : a2 > 32768
      · rw [if_pos c13] at H
        have c13b0 : decide (32768 < a2) = true := decide_eq_true c13
        clear c13
        have H' := Aside0.mk H
        clear H
        go_wp2
        go_meet
        case rel => exact ⟨_, (true), (by first | rfl | (simp; done) | (simp [*]; done)), H', ⟨by first | omega | exact Nat.le_refl _⟩, ⟨by (with_reducible repeat (first | apply Kd.R_alloc | apply Kd.R_drewN | apply Kd.R_drew)); exact Kd.R_mono HO245.out (fun _ hk => ⟨hk.1.2, hk.2⟩)⟩, ⟨by (with_reducible repeat (first | refine blk_drewN ?_ _ | refine blk_drew ?_ | refine blk_alloc ?_ _)); exact BK241.out⟩, ⟨by (with_reducible repeat (first | refine blk_drewN ?_ _ | refine blk_drew ?_ | refine blk_alloc ?_ _)); exact BK242.out⟩, ⟨by repeat (first | (with_reducible first | exact HB.out | apply below_alloc | apply pw_below_drewN | apply below_drew1 | refine below_set ?_ GE241.out | refine below_set ?_ GE242.out) | exact HB.out)⟩⟩
      · rw [if_neg c13] at H
        have c13b0 : decide (32768 < a2) = false := decide_eq_false c13
        clear c13
        replace H := Option.bind_eq_some_iff.mp H
        obtain ⟨t247, A140, H⟩ := H
        replace H : (if t247 = true then ((limnerlaw07_in.f a1_0 a1_1).bind fun t248 => (if t248 = true then (limnerlaw07_StrokeBars.j0 k a2 t243 t246 (a0_0 == a1_0 && (a0_1 == a1_1)) a0_0 a0_1 a1_0 a1_1) else (limnerlaw07_StrokeBars.j0 k a2 t243 t246 true a0_0 a0_1 a1_0 a1_1))) else (limnerlaw07_StrokeBars.j0 k a2 t243 t246 true a0_0 a0_1 a1_0 a1_1)) = some r := H
        have A14 := Aside0.mk A140
        clear A140
        by_cases c15 : t247 = true
        · subst c15
          have H1 : ((limnerlaw07_in.f a1_0 a1_1).bind fun t248 => (if t248 = true then (limnerlaw07_StrokeBars.j0 k a2 t243 t246 (a0_0 == a1_0 && (a0_1 == a1_1)) a0_0 a0_1 a1_0 a1_1) else (limnerlaw07_StrokeBars.j0 k a2 t243 t246 true a0_0 a0_1 a1_0 a1_1))) = some r := by rw [if_pos rfl] at H; exact H
          clear H
          have H := H1
          clear H1
          replace H := Option.bind_eq_some_iff.mp H
          obtain ⟨t248, A160, H⟩ := H
          replace H : (if t248 = true then (limnerlaw07_StrokeBars.j0 k a2 t243 t246 (a0_0 == a1_0 && (a0_1 == a1_1)) a0_0 a0_1 a1_0 a1_1) else (limnerlaw07_StrokeBars.j0 k a2 t243 t246 true a0_0 a0_1 a1_0 a1_1)) = some r := H
          have A16 := Aside0.mk A160
          clear A160
          by_cases c17 : t248 = true
          · subst c17
            have H1 : (limnerlaw07_StrokeBars.j0 k a2 t243 t246 (a0_0 == a1_0 && (a0_1 == a1_1)) a0_0 a0_1 a1_0 a1_1) = some r := by rw [if_pos rfl] at H; exact H
            clear H
            have H := H1
            clear H1
            have H' := Aside0.mk H
            clear H
            have hnb18 := NB241_242.out
            have hnc18 := NB242_241.out
            have hcz19_0 : w11.cell? ⟨gb241, 0, none⟩ = some (.int .i64 a0_0) := (blk_cell BK241.out 0).trans rfl
            have hcz19_1 : w11.cell? ⟨gb241, 1, none⟩ = some (.int .i64 a0_1) := (blk_cell BK241.out 1).trans rfl
            have hfz19_0 := blk_frozen BK241.out 0
            have hfz19_1 := blk_frozen BK241.out 1
            go_wp2_with (first | (go_at_call 5; (with_reducible refine (limnerlaw07_in.calls a0_0 a0_1 true _ A14.out).mono ?_); rintro e w20 ⟨rfl, hb⟩; have n0_ := Aside0.mk (Kd.R_below (by (with_reducible repeat (first | apply Kd.R_alloc | apply Kd.R_drewN | apply Kd.R_drew)); exact HO245.out) hb); have n1_ := Aside0.mk (blk_below (g := gb241) (o := .cells #[.int .i64 a0_0, .int .i64 a0_1] 23 (0, 0)) (by (with_reducible repeat (first | refine blk_drewN ?_ _ | refine blk_drew ?_ | refine blk_alloc ?_ _)); exact BK241.out) hb); have n2_ := Aside0.mk (blk_below (g := gb242) (o := .cells #[.int .i64 a1_0, .int .i64 a1_1] 23 (0, 0)) (by (with_reducible repeat (first | refine blk_drewN ?_ _ | refine blk_drew ?_ | refine blk_alloc ?_ _)); exact BK242.out) hb); have n3_ := Aside0.mk (below_step (by repeat (first | (with_reducible first | exact HB.out | apply below_alloc | apply pw_below_drewN | apply below_drew1 | refine below_set ?_ GE241.out | refine below_set ?_ GE242.out) | exact HB.out)) hb); clear HO245; clear BK241; clear BK242; clear HB; have HO245 := n0_; have BK241 := n1_; have BK242 := n2_; have HB := n3_; clear n0_ n1_ n2_ n3_; (try clear hb); (try clear hb2); (try clear hk); (try clear hi); have hcz21_0 : w20.cell? ⟨gb242, 0, none⟩ = some (.int .i64 a1_0) := (blk_cell BK242.out 0).trans rfl; have hcz21_1 : w20.cell? ⟨gb242, 1, none⟩ = some (.int .i64 a1_1) := (blk_cell BK242.out 1).trans rfl; have hfz21_0 := blk_frozen BK242.out 0; have hfz21_1 := blk_frozen BK242.out 1) | (go_at_call 5; (with_reducible refine (limnerlaw07_in.calls a1_0 a1_1 true _ A16.out).mono ?_); rintro e w22 ⟨rfl, hb⟩; have n0_ := Aside0.mk (Kd.R_below (by (with_reducible repeat (first | apply Kd.R_alloc | apply Kd.R_drewN | apply Kd.R_drew)); exact HO245.out) hb); have n1_ := Aside0.mk (blk_below (g := gb241) (o := .cells #[.int .i64 a0_0, .int .i64 a0_1] 23 (0, 0)) (by (with_reducible repeat (first | refine blk_drewN ?_ _ | refine blk_drew ?_ | refine blk_alloc ?_ _)); exact BK241.out) hb); have n2_ := Aside0.mk (blk_below (g := gb242) (o := .cells #[.int .i64 a1_0, .int .i64 a1_1] 23 (0, 0)) (by (with_reducible repeat (first | refine blk_drewN ?_ _ | refine blk_drew ?_ | refine blk_alloc ?_ _)); exact BK242.out) hb); have n3_ := Aside0.mk (below_step (by repeat (first | (with_reducible first | exact HB.out | apply below_alloc | apply pw_below_drewN | apply below_drew1 | refine below_set ?_ GE241.out | refine below_set ?_ GE242.out) | exact HB.out)) hb); clear HO245; clear BK241; clear BK242; clear HB; have HO245 := n0_; have BK241 := n1_; have BK242 := n2_; have HB := n3_; clear n0_ n1_ n2_ n3_; (try clear hb); (try clear hb2); (try clear hk); (try clear hi); have hcz23_0 : w22.cell? ⟨gb241, 0, none⟩ = some (.int .i64 a0_0) := (blk_cell BK241.out 0).trans rfl; have hcz23_1 : w22.cell? ⟨gb241, 1, none⟩ = some (.int .i64 a0_1) := (blk_cell BK241.out 1).trans rfl; have hfz23_0 := blk_frozen BK241.out 0; have hfz23_1 := blk_frozen BK241.out 1; have hcz24_0 : w22.cell? ⟨gb242, 0, none⟩ = some (.int .i64 a1_0) := (blk_cell BK242.out 0).trans rfl; have hcz24_1 : w22.cell? ⟨gb242, 1, none⟩ = some (.int .i64 a1_1) := (blk_cell BK242.out 1).trans rfl; have hfz24_0 := blk_frozen BK242.out 0; have hfz24_1 := blk_frozen BK242.out 1))
            go_meet
            case rel => exact ⟨_, ((a0_0 == a1_0 && (a0_1 == a1_1))), (by first | rfl | (simp; done) | (simp [*]; done)), H', ⟨by first | omega | exact Nat.le_refl _⟩, ⟨by (with_reducible repeat (first | apply Kd.R_alloc | apply Kd.R_drewN | apply Kd.R_drew)); exact Kd.R_mono HO245.out (fun _ hk => ⟨hk.1.2, hk.2⟩)⟩, ⟨by (with_reducible repeat (first | refine blk_drewN ?_ _ | refine blk_drew ?_ | refine blk_alloc ?_ _)); exact BK241.out⟩, ⟨by (with_reducible repeat (first | refine blk_drewN ?_ _ | refine blk_drew ?_ | refine blk_alloc ?_ _)); exact BK242.out⟩, ⟨by repeat (first | (with_reducible first | exact HB.out | apply below_alloc | apply pw_below_drewN | apply below_drew1 | refine below_set ?_ GE241.out | refine below_set ?_ GE242.out) | exact HB.out)⟩⟩
          · replace c17 := Bool.eq_false_iff.mpr c17
            subst c17
            have H1 : (limnerlaw07_StrokeBars.j0 k a2 t243 t246 true a0_0 a0_1 a1_0 a1_1) = some r := by rw [if_neg (show ¬ (false = true) by decide)] at H; exact H
            clear H
            have H := H1
            clear H1
            have H' := Aside0.mk H
            clear H
            have hnb25 := NB241_242.out
            have hnc25 := NB242_241.out
            have hcz26_0 : w11.cell? ⟨gb241, 0, none⟩ = some (.int .i64 a0_0) := (blk_cell BK241.out 0).trans rfl
            have hcz26_1 : w11.cell? ⟨gb241, 1, none⟩ = some (.int .i64 a0_1) := (blk_cell BK241.out 1).trans rfl
            have hfz26_0 := blk_frozen BK241.out 0
            have hfz26_1 := blk_frozen BK241.out 1
            go_wp2_with (first | (go_at_call 5; (with_reducible refine (limnerlaw07_in.calls a0_0 a0_1 true _ A14.out).mono ?_); rintro e w27 ⟨rfl, hb⟩; have n0_ := Aside0.mk (Kd.R_below (by (with_reducible repeat (first | apply Kd.R_alloc | apply Kd.R_drewN | apply Kd.R_drew)); exact HO245.out) hb); have n1_ := Aside0.mk (blk_below (g := gb241) (o := .cells #[.int .i64 a0_0, .int .i64 a0_1] 23 (0, 0)) (by (with_reducible repeat (first | refine blk_drewN ?_ _ | refine blk_drew ?_ | refine blk_alloc ?_ _)); exact BK241.out) hb); have n2_ := Aside0.mk (blk_below (g := gb242) (o := .cells #[.int .i64 a1_0, .int .i64 a1_1] 23 (0, 0)) (by (with_reducible repeat (first | refine blk_drewN ?_ _ | refine blk_drew ?_ | refine blk_alloc ?_ _)); exact BK242.out) hb); have n3_ := Aside0.mk (below_step (by repeat (first | (with_reducible first | exact HB.out | apply below_alloc | apply pw_below_drewN | apply below_drew1 | refine below_set ?_ GE241.out | refine below_set ?_ GE242.out) | exact HB.out)) hb); clear HO245; clear BK241; clear BK242; clear HB; have HO245 := n0_; have BK241 := n1_; have BK242 := n2_; have HB := n3_; clear n0_ n1_ n2_ n3_; (try clear hb); (try clear hb2); (try clear hk); (try clear hi); have hcz28_0 : w27.cell? ⟨gb242, 0, none⟩ = some (.int .i64 a1_0) := (blk_cell BK242.out 0).trans rfl; have hcz28_1 : w27.cell? ⟨gb242, 1, none⟩ = some (.int .i64 a1_1) := (blk_cell BK242.out 1).trans rfl; have hfz28_0 := blk_frozen BK242.out 0; have hfz28_1 := blk_frozen BK242.out 1) | (go_at_call 5; (with_reducible refine (limnerlaw07_in.calls a1_0 a1_1 false _ A16.out).mono ?_); rintro e w29 ⟨rfl, hb⟩; have n0_ := Aside0.mk (Kd.R_below (by (with_reducible repeat (first | apply Kd.R_alloc | apply Kd.R_drewN | apply Kd.R_drew)); exact HO245.out) hb); have n1_ := Aside0.mk (blk_below (g := gb241) (o := .cells #[.int .i64 a0_0, .int .i64 a0_1] 23 (0, 0)) (by (with_reducible repeat (first | refine blk_drewN ?_ _ | refine blk_drew ?_ | refine blk_alloc ?_ _)); exact BK241.out) hb); have n2_ := Aside0.mk (blk_below (g := gb242) (o := .cells #[.int .i64 a1_0, .int .i64 a1_1] 23 (0, 0)) (by (with_reducible repeat (first | refine blk_drewN ?_ _ | refine blk_drew ?_ | refine blk_alloc ?_ _)); exact BK242.out) hb); have n3_ := Aside0.mk (below_step (by repeat (first | (with_reducible first | exact HB.out | apply below_alloc | apply pw_below_drewN | apply below_drew1 | refine below_set ?_ GE241.out | refine below_set ?_ GE242.out) | exact HB.out)) hb); clear HO245; clear BK241; clear BK242; clear HB; have HO245 := n0_; have BK241 := n1_; have BK242 := n2_; have HB := n3_; clear n0_ n1_ n2_ n3_; (try clear hb); (try clear hb2); (try clear hk); (try clear hi)))
            go_meet
            case rel => exact ⟨_, (true), (by first | rfl | (simp; done) | (simp [*]; done)), H', ⟨by first | omega | exact Nat.le_refl _⟩, ⟨by (with_reducible repeat (first | apply Kd.R_alloc | apply Kd.R_drewN | apply Kd.R_drew)); exact Kd.R_mono HO245.out (fun _ hk => ⟨hk.1.2, hk.2⟩)⟩, ⟨by (with_reducible repeat (first | refine blk_drewN ?_ _ | refine blk_drew ?_ | refine blk_alloc ?_ _)); exact BK241.out⟩, ⟨by (with_reducible repeat (first | refine blk_drewN ?_ _ | refine blk_drew ?_ | refine blk_alloc ?_ _)); exact BK242.out⟩, ⟨by repeat (first | (with_reducible first | exact HB.out | apply below_alloc | apply pw_below_drewN | apply below_drew1 | refine below_set ?_ GE241.out | refine below_set ?_ GE242.out) | exact HB.out)⟩⟩
        · replace c15 := Bool.eq_false_iff.mpr c15
          subst c15
          have H1 : (limnerlaw07_StrokeBars.j0 k a2 t243 t246 true a0_0 a0_1 a1_0 a1_1) = some r := by rw [if_neg (show ¬ (false = true) by decide)] at H; exact H
          clear H
          have H := H1
          clear H1
          have H' := Aside0.mk H
          clear H
          have hnb30 := NB241_242.out
          have hnc30 := NB242_241.out
          have hcz31_0 : w11.cell? ⟨gb241, 0, none⟩ = some (.int .i64 a0_0) := (blk_cell BK241.out 0).trans rfl
          have hcz31_1 : w11.cell? ⟨gb241, 1, none⟩ = some (.int .i64 a0_1) := (blk_cell BK241.out 1).trans rfl
          have hfz31_0 := blk_frozen BK241.out 0
          have hfz31_1 := blk_frozen BK241.out 1
          go_wp2_with (first | (go_at_call 5; (with_reducible refine (limnerlaw07_in.calls a0_0 a0_1 false _ A14.out).mono ?_); rintro e w32 ⟨rfl, hb⟩; have n0_ := Aside0.mk (Kd.R_below (by (with_reducible repeat (first | apply Kd.R_alloc | apply Kd.R_drewN | apply Kd.R_drew)); exact HO245.out) hb); have n1_ := Aside0.mk (blk_below (g := gb241) (o := .cells #[.int .i64 a0_0, .int .i64 a0_1] 23 (0, 0)) (by (with_reducible repeat (first | refine blk_drewN ?_ _ | refine blk_drew ?_ | refine blk_alloc ?_ _)); exact BK241.out) hb); have n2_ := Aside0.mk (blk_below (g := gb242) (o := .cells #[.int .i64 a1_0, .int .i64 a1_1] 23 (0, 0)) (by (with_reducible repeat (first | refine blk_drewN ?_ _ | refine blk_drew ?_ | refine blk_alloc ?_ _)); exact BK242.out) hb); have n3_ := Aside0.mk (below_step (by repeat (first | (with_reducible first | exact HB.out | apply below_alloc | apply pw_below_drewN | apply below_drew1 | refine below_set ?_ GE241.out | refine below_set ?_ GE242.out) | exact HB.out)) hb); clear HO245; clear BK241; clear BK242; clear HB; have HO245 := n0_; have BK241 := n1_; have BK242 := n2_; have HB := n3_; clear n0_ n1_ n2_ n3_; (try clear hb); (try clear hb2); (try clear hk); (try clear hi)))
          go_meet
          case rel => exact ⟨_, (true), (by first | rfl | (simp; done) | (simp [*]; done)), H', ⟨by first | omega | exact Nat.le_refl _⟩, ⟨by (with_reducible repeat (first | apply Kd.R_alloc | apply Kd.R_drewN | apply Kd.R_drew)); exact Kd.R_mono HO245.out (fun _ hk => ⟨hk.1.2, hk.2⟩)⟩, ⟨by (with_reducible repeat (first | refine blk_drewN ?_ _ | refine blk_drew ?_ | refine blk_alloc ?_ _)); exact BK241.out⟩, ⟨by (with_reducible repeat (first | refine blk_drewN ?_ _ | refine blk_drew ?_ | refine blk_alloc ?_ _)); exact BK242.out⟩, ⟨by repeat (first | (with_reducible first | exact HB.out | apply below_alloc | apply pw_below_drewN | apply below_drew1 | refine below_set ?_ GE241.out | refine below_set ?_ GE242.out) | exact HB.out)⟩⟩
  case rest =>
    clear HC5
    try clear c1
    try clear c2
    try clear p2
    try clear c3
    try clear c4
    try clear c8
    try clear c12
    try clear c12b0
    try clear c13
    try clear c13b0
    try clear c15
    try clear c17
    try clear c18
    try clear c25
    try clear c30
    try clear hcz10_0
    try clear hcz10_1
    try clear hcz19_0
    try clear hcz19_1
    try clear hcz21_0
    try clear hcz21_1
    try clear hcz23_0
    try clear hcz23_1
    try clear hcz24_0
    try clear hcz24_1
    try clear hcz26_0
    try clear hcz26_1
    try clear hcz28_0
    try clear hcz28_1
    try clear hcz31_0
    try clear hcz31_1
    try clear hcz9_0
    try clear hcz9_1
    try clear hfz10_0
    try clear hfz10_1
    try clear hfz19_0
    try clear hfz19_1
    try clear hfz21_0
    try clear hfz21_1
    try clear hfz23_0
    try clear hfz23_1
    try clear hfz24_0
    try clear hfz24_1
    try clear hfz26_0
    try clear hfz26_1
    try clear hfz28_0
    try clear hfz28_1
    try clear hfz31_0
    try clear hfz31_1
    try clear hfz9_0
    try clear hfz9_1
    obtain ⟨kq, x17_4, rfl, HA, HJ4, HO_7, BK241, BK242, HB⟩ := hcut
    cases kq with
    | zero => exact absurd HA.out (by simp [limnerlaw07_StrokeBars.j0])
    | succ kj4 =>
      have H := HA.out
      clear HA
      simp only [limnerlaw07_StrokeBars.j0] at H
      by_cases c33 : x17_4 = true
      · subst c33
        have H1 : (if t246 = 30 then (if (t243.length : Int) = 0 then ((limnerlaw07_awake.f kj4).bind fun t249 => (some t249)) else (none)) else (none)) = some r := by rw [if_pos rfl] at H; exact H
        clear H
        have H := H1
        clear H1
        by_cases c34 : t246 = 30
        · rw [if_pos c34] at H
          have c34b0 : (t246 == 30) = true := beq_iff_eq.mpr c34
          have c34b1 : (t246 != 30) = false := bne_eq_false_iff_eq.mpr c34
          clear c34
          by_cases c35 : (t243.length : Int) = 0
          · rw [if_pos c35] at H
            have c35b0 : ((t243.length : Int) == 0) = true := beq_iff_eq.mpr c35
            have c35b1 : ((t243.length : Int) != 0) = false := bne_eq_false_iff_eq.mpr c35
            clear c35
            replace H := Option.bind_eq_some_iff.mp H
            obtain ⟨t249, A360, H⟩ := H
            replace H : (some t249) = some r := H
            have A36 := Aside0.mk A360
            clear A360
            obtain rfl := Option.some.inj H
            obtain ⟨Ao37, co37, eo37⟩ := Kd.R_slice HO_7.out
            subst eo37
            go_wp2_with (first | (go_at_call 6; (with_reducible refine (limnerlaw07_awake.calls kj4  t249 _ A36.out).mono ?_); rintro e w38 ⟨rfl, hb⟩; have n0_ := Aside0.mk (Kd.R_below (by (with_reducible repeat (first | apply Kd.R_alloc | apply Kd.R_drewN | apply Kd.R_drew)); exact HO_7.out) hb); have n1_ := Aside0.mk (blk_below (g := gb241) (o := .cells #[.int .i64 a0_0, .int .i64 a0_1] 23 (0, 0)) (by (with_reducible repeat (first | refine blk_drewN ?_ _ | refine blk_drew ?_ | refine blk_alloc ?_ _)); exact BK241.out) hb); have n2_ := Aside0.mk (blk_below (g := gb242) (o := .cells #[.int .i64 a1_0, .int .i64 a1_1] 23 (0, 0)) (by (with_reducible repeat (first | refine blk_drewN ?_ _ | refine blk_drew ?_ | refine blk_alloc ?_ _)); exact BK242.out) hb); have n3_ := Aside0.mk (below_step (by repeat (first | (with_reducible first | exact HB.out | apply below_alloc | apply pw_below_drewN | apply below_drew1 | refine below_set ?_ GE241.out | refine below_set ?_ GE242.out) | exact HB.out)) hb); clear HO_7; clear BK241; clear BK242; clear HB; have HO_7 := n0_; have BK241 := n1_; have BK242 := n2_; have HB := n3_; clear n0_ n1_ n2_ n3_; (try clear hb); (try clear hb2); (try clear hk); (try clear hi)))
            go_ret
            exact ⟨by first | rfl | (simp [errW_none, errW_some] <;> rfl) | (simp [*, errW_none, errW_some] <;> rfl), by repeat (first | (with_reducible first | exact HB.out | apply below_alloc | apply pw_below_drewN | apply below_drew1 | refine below_set ?_ GE241.out | refine below_set ?_ GE242.out) | exact HB.out)⟩
          · rw [if_neg c35] at H
            exact absurd H (by simp)
        · rw [if_neg c34] at H
          exact absurd H (by simp)
      · replace c33 := Bool.eq_false_iff.mpr c33
        subst c33
        have H1 : ((limnerlaw07_ref.f a0_0 a0_1).bind fun bt250 => ((limnerlaw07_ref.f a1_0 a1_1).bind fun bt252 => ((limnerref07_Long.f bt250.1 bt250.2 bt252.1 bt252.2).bind fun t254 => (if t254 = true then (if t246 = 10 then (if (t243.length : Int) = 0 then ((limnerlaw07_awake.f kj4).bind fun t255 => (some t255)) else (none)) else (none)) else ((limnerlaw07_ref.f a0_0 a0_1).bind fun bt256 => ((limnerlaw07_ref.f a1_0 a1_1).bind fun bt258 => ((limnerref07_Bar.f kj4 bt256.1 bt256.2 bt258.1 bt258.2 a2).bind fun t260 => ((limnerref07_In.f kj4 t260).bind fun t263 => (if t263 = true then (if t246 = 0 then ((limnerlaw07_same.f kj4 t243 t260).bind fun t264 => (if t264 = true then ((limnerlaw07_awake.f kj4).bind fun t265 => (some t265)) else (none))) else (none)) else (if t246 = 10 then (if (t243.length : Int) = 0 then ((limnerlaw07_awake.f kj4).bind fun t266 => (some t266)) else (none)) else (none))))))))))) = some r := by rw [if_neg (show ¬ (false = true) by decide)] at H; exact H
        clear H
        have H := H1
        clear H1
        replace H := Option.bind_eq_some_iff.mp H
        obtain ⟨⟨t250, t251⟩, A390, H⟩ := H
        replace H : ((limnerlaw07_ref.f a1_0 a1_1).bind fun bt252 => ((limnerref07_Long.f t250 t251 bt252.1 bt252.2).bind fun t254 => (if t254 = true then (if t246 = 10 then (if (t243.length : Int) = 0 then ((limnerlaw07_awake.f kj4).bind fun t255 => (some t255)) else (none)) else (none)) else ((limnerlaw07_ref.f a0_0 a0_1).bind fun bt256 => ((limnerlaw07_ref.f a1_0 a1_1).bind fun bt258 => ((limnerref07_Bar.f kj4 bt256.1 bt256.2 bt258.1 bt258.2 a2).bind fun t260 => ((limnerref07_In.f kj4 t260).bind fun t263 => (if t263 = true then (if t246 = 0 then ((limnerlaw07_same.f kj4 t243 t260).bind fun t264 => (if t264 = true then ((limnerlaw07_awake.f kj4).bind fun t265 => (some t265)) else (none))) else (none)) else (if t246 = 10 then (if (t243.length : Int) = 0 then ((limnerlaw07_awake.f kj4).bind fun t266 => (some t266)) else (none)) else (none)))))))))) = some r := H
        have A39 := Aside0.mk A390
        clear A390
        replace H := Option.bind_eq_some_iff.mp H
        obtain ⟨⟨t252, t253⟩, A400, H⟩ := H
        replace H : ((limnerref07_Long.f t250 t251 t252 t253).bind fun t254 => (if t254 = true then (if t246 = 10 then (if (t243.length : Int) = 0 then ((limnerlaw07_awake.f kj4).bind fun t255 => (some t255)) else (none)) else (none)) else ((limnerlaw07_ref.f a0_0 a0_1).bind fun bt256 => ((limnerlaw07_ref.f a1_0 a1_1).bind fun bt258 => ((limnerref07_Bar.f kj4 bt256.1 bt256.2 bt258.1 bt258.2 a2).bind fun t260 => ((limnerref07_In.f kj4 t260).bind fun t263 => (if t263 = true then (if t246 = 0 then ((limnerlaw07_same.f kj4 t243 t260).bind fun t264 => (if t264 = true then ((limnerlaw07_awake.f kj4).bind fun t265 => (some t265)) else (none))) else (none)) else (if t246 = 10 then (if (t243.length : Int) = 0 then ((limnerlaw07_awake.f kj4).bind fun t266 => (some t266)) else (none)) else (none))))))))) = some r := H
        have A40 := Aside0.mk A400
        clear A400
        replace H := Option.bind_eq_some_iff.mp H
        obtain ⟨t254, A410, H⟩ := H
        replace H : (if t254 = true then (if t246 = 10 then (if (t243.length : Int) = 0 then ((limnerlaw07_awake.f kj4).bind fun t255 => (some t255)) else (none)) else (none)) else ((limnerlaw07_ref.f a0_0 a0_1).bind fun bt256 => ((limnerlaw07_ref.f a1_0 a1_1).bind fun bt258 => ((limnerref07_Bar.f kj4 bt256.1 bt256.2 bt258.1 bt258.2 a2).bind fun t260 => ((limnerref07_In.f kj4 t260).bind fun t263 => (if t263 = true then (if t246 = 0 then ((limnerlaw07_same.f kj4 t243 t260).bind fun t264 => (if t264 = true then ((limnerlaw07_awake.f kj4).bind fun t265 => (some t265)) else (none))) else (none)) else (if t246 = 10 then (if (t243.length : Int) = 0 then ((limnerlaw07_awake.f kj4).bind fun t266 => (some t266)) else (none)) else (none)))))))) = some r := H
        have A41 := Aside0.mk A410
        clear A410
        by_cases c42 : t254 = true
        · subst c42
          have H1 : (if t246 = 10 then (if (t243.length : Int) = 0 then ((limnerlaw07_awake.f kj4).bind fun t255 => (some t255)) else (none)) else (none)) = some r := by rw [if_pos rfl] at H; exact H
          clear H
          have H := H1
          clear H1
          by_cases c43 : t246 = 10
          · rw [if_pos c43] at H
            have c43b0 : (t246 == 10) = true := beq_iff_eq.mpr c43
            have c43b1 : (t246 != 10) = false := bne_eq_false_iff_eq.mpr c43
            clear c43
            by_cases c44 : (t243.length : Int) = 0
            · rw [if_pos c44] at H
              have c44b0 : ((t243.length : Int) == 0) = true := beq_iff_eq.mpr c44
              have c44b1 : ((t243.length : Int) != 0) = false := bne_eq_false_iff_eq.mpr c44
              clear c44
              replace H := Option.bind_eq_some_iff.mp H
              obtain ⟨t255, A450, H⟩ := H
              replace H : (some t255) = some r := H
              have A45 := Aside0.mk A450
              clear A450
              obtain rfl := Option.some.inj H
              try go_wp2
              have n0_ := Aside0.mk (Kd.R_drew HO_7.out)
              have n1_ := Aside0.mk (blk_drew BK241.out)
              have n2_ := Aside0.mk (blk_drew BK242.out)
              have n3_ := Aside0.mk (below_drew1 HB.out)
              clear HO_7
              clear BK241
              clear BK242
              clear HB
              have HO_7 := n0_
              have BK241 := n1_
              have BK242 := n2_
              have HB := n3_
              clear n0_ n1_ n2_ n3_
              refine start_ (n := 6) (S := fun w' => w'.cell? ⟨gb241, 0, none⟩ = some (.int .i64 a0_0) ∧ w'.cell? ⟨gb241, 1, none⟩ = some (.int .i64 a0_1) ∧ w'.cell? ⟨gb242, 0, none⟩ = some (.int .i64 a1_0) ∧ w'.cell? ⟨gb242, 1, none⟩ = some (.int .i64 a1_1)) (ds := []) #[false, false, false, false, false, false] (by kernel_rfl) rfl rfl ⟨(blk_cell BK241.out 0).trans rfl, (blk_cell BK241.out 1).trans rfl, (blk_cell BK242.out 0).trans rfl, (blk_cell BK242.out 1).trans rfl⟩ (fun hHeld => ?_)
              generalize wc.drew = w46 at HO_7 BK241 BK242 HB hHeld ⊢
              refine take_ (i := 0) (N := some 50) (v := ?_) (a' := ?_) #[true, false, false, false, false, false] rfl rfl (by kernel_rfl) (fun _ _ _ h => h) (Or.inl ⟨by rfl, ?_⟩) hHeld ?_ ?_
              rotate_left
              · rintro w' ⟨s0, s1, s2, s3⟩
                go_simp
                with_reducible rfl
              rotate_left
              · simp only [Act.put, List.setIfInBounds_toArray, List.set_cons_zero, List.set_cons_succ, i64_w, i32_w]
                rfl
              refine take_ (i := 2) (N := some 52) (v := ?_) (a' := ?_) #[true, false, true, false, false, false] rfl rfl (by kernel_rfl) (fun _ _ _ h => h) (Or.inl ⟨by rfl, ?_⟩) hHeld ?_ ?_
              rotate_left
              · rintro w' ⟨s0, s1, s2, s3⟩
                go_simp
                with_reducible rfl
              rotate_left
              · simp only [Act.put, List.setIfInBounds_toArray, List.set_cons_zero, List.set_cons_succ, i64_w, i32_w]
                rfl
              refine one_ (i := 1) (N := some 51) #[true, true, true, false, false, false] rfl rfl (by kernel_rfl) (by decide) (fun K hK => ?_)
              refine goes_ Try.func8 (by kernel_rfl) rfl #[.agg #[.int .i64 a0_0, .int .i64 a0_1]] (by rfl) rfl rfl (by (try simp only [List.map_toArray, List.map_cons, List.map_nil]); first | done | rfl | (simp only [List.length_drop, List.length_take]; rfl)) ?_
              with_reducible refine (limnerlaw07_ref.calls a0_0 a0_1 t250 t251 _ A39.out).mono ?_
              rintro e w47 ⟨rfl, hb⟩
              refine ⟨_, rfl, ?_⟩
              have n0_ := Aside0.mk (Kd.R_below (by (with_reducible repeat (first | apply Kd.R_alloc | apply Kd.R_drewN | apply Kd.R_drew)); exact HO_7.out) hb)
              have n1_ := Aside0.mk (blk_below (g := gb241) (o := .cells #[.int .i64 a0_0, .int .i64 a0_1] 23 (0, 0)) (by (with_reducible repeat (first | refine blk_drewN ?_ _ | refine blk_drew ?_ | refine blk_alloc ?_ _)); exact BK241.out) hb)
              have n2_ := Aside0.mk (blk_below (g := gb242) (o := .cells #[.int .i64 a1_0, .int .i64 a1_1] 23 (0, 0)) (by (with_reducible repeat (first | refine blk_drewN ?_ _ | refine blk_drew ?_ | refine blk_alloc ?_ _)); exact BK242.out) hb)
              have n3_ := Aside0.mk (below_step (by repeat (first | (with_reducible first | exact HB.out | apply below_alloc | apply pw_below_drewN | apply below_drew1 | refine below_set ?_ GE241.out | refine below_set ?_ GE242.out) | exact HB.out)) hb)
              clear HO_7
              clear BK241
              clear BK242
              clear HB
              have HO_7 := n0_
              have BK241 := n1_
              have BK242 := n2_
              have HB := n3_
              clear n0_ n1_ n2_ n3_
              (try clear hb)
              (try clear hb2)
              (try clear hk)
              (try clear hi)
              refine hK.out _ _ ⟨(blk_cell BK241.out 0).trans rfl, (blk_cell BK241.out 1).trans rfl, (blk_cell BK242.out 0).trans rfl, (blk_cell BK242.out 1).trans rfl⟩ (fun hHeld => ?_)
              clear hK K
              refine norm_ (a' := ?_) ?_ ?_
              rotate_left
              · show Act.put _ (some 51) _ = _
                simp only [Act.put, List.setIfInBounds_toArray, List.set_cons_zero, List.set_cons_succ, i64_w, i32_w]
                rfl
              refine one_ (i := 3) (N := some 53) #[true, true, true, true, false, false] rfl rfl (by kernel_rfl) (by decide) (fun K hK => ?_)
              refine goes_ Try.func8 (by kernel_rfl) rfl #[.agg #[.int .i64 a1_0, .int .i64 a1_1]] (by rfl) rfl rfl (by (try simp only [List.map_toArray, List.map_cons, List.map_nil]); first | done | rfl | (simp only [List.length_drop, List.length_take]; rfl)) ?_
              with_reducible refine (limnerlaw07_ref.calls a1_0 a1_1 t252 t253 _ A40.out).mono ?_
              rintro e w48 ⟨rfl, hb⟩
              refine ⟨_, rfl, ?_⟩
              have n0_ := Aside0.mk (Kd.R_below (by (with_reducible repeat (first | apply Kd.R_alloc | apply Kd.R_drewN | apply Kd.R_drew)); exact HO_7.out) hb)
              have n1_ := Aside0.mk (blk_below (g := gb241) (o := .cells #[.int .i64 a0_0, .int .i64 a0_1] 23 (0, 0)) (by (with_reducible repeat (first | refine blk_drewN ?_ _ | refine blk_drew ?_ | refine blk_alloc ?_ _)); exact BK241.out) hb)
              have n2_ := Aside0.mk (blk_below (g := gb242) (o := .cells #[.int .i64 a1_0, .int .i64 a1_1] 23 (0, 0)) (by (with_reducible repeat (first | refine blk_drewN ?_ _ | refine blk_drew ?_ | refine blk_alloc ?_ _)); exact BK242.out) hb)
              have n3_ := Aside0.mk (below_step (by repeat (first | (with_reducible first | exact HB.out | apply below_alloc | apply pw_below_drewN | apply below_drew1 | refine below_set ?_ GE241.out | refine below_set ?_ GE242.out) | exact HB.out)) hb)
              clear HO_7
              clear BK241
              clear BK242
              clear HB
              have HO_7 := n0_
              have BK241 := n1_
              have BK242 := n2_
              have HB := n3_
              clear n0_ n1_ n2_ n3_
              (try clear hb)
              (try clear hb2)
              (try clear hk)
              (try clear hi)
              refine hK.out _ _ ⟨(blk_cell BK241.out 0).trans rfl, (blk_cell BK241.out 1).trans rfl, (blk_cell BK242.out 0).trans rfl, (blk_cell BK242.out 1).trans rfl⟩ (fun hHeld => ?_)
              clear hK K
              refine norm_ (a' := ?_) ?_ ?_
              rotate_left
              · show Act.put _ (some 53) _ = _
                simp only [Act.put, List.setIfInBounds_toArray, List.set_cons_zero, List.set_cons_succ, i64_w, i32_w]
                rfl
              refine one_ (i := 4) (N := some 54) #[true, true, true, true, true, false] rfl rfl (by kernel_rfl) (by decide) (fun K hK => ?_)
              refine goes_ Try.func7 (by kernel_rfl) rfl #[.agg #[.int .i64 t250, .int .i64 t251], .agg #[.int .i64 t252, .int .i64 t253]] (by rfl) rfl rfl (by (try simp only [List.map_toArray, List.map_cons, List.map_nil]); first | done | rfl | (simp only [List.length_drop, List.length_take]; rfl)) ?_
              with_reducible refine (limnerref07_Long.calls t250 t251 t252 t253 true _ A41.out).mono ?_
              rintro e w49 ⟨rfl, hb⟩
              refine ⟨_, rfl, ?_⟩
              have n0_ := Aside0.mk (Kd.R_below (by (with_reducible repeat (first | apply Kd.R_alloc | apply Kd.R_drewN | apply Kd.R_drew)); exact HO_7.out) hb)
              have n1_ := Aside0.mk (blk_below (g := gb241) (o := .cells #[.int .i64 a0_0, .int .i64 a0_1] 23 (0, 0)) (by (with_reducible repeat (first | refine blk_drewN ?_ _ | refine blk_drew ?_ | refine blk_alloc ?_ _)); exact BK241.out) hb)
              have n2_ := Aside0.mk (blk_below (g := gb242) (o := .cells #[.int .i64 a1_0, .int .i64 a1_1] 23 (0, 0)) (by (with_reducible repeat (first | refine blk_drewN ?_ _ | refine blk_drew ?_ | refine blk_alloc ?_ _)); exact BK242.out) hb)
              have n3_ := Aside0.mk (below_step (by repeat (first | (with_reducible first | exact HB.out | apply below_alloc | apply pw_below_drewN | apply below_drew1 | refine below_set ?_ GE241.out | refine below_set ?_ GE242.out) | exact HB.out)) hb)
              clear HO_7
              clear BK241
              clear BK242
              clear HB
              have HO_7 := n0_
              have BK241 := n1_
              have BK242 := n2_
              have HB := n3_
              clear n0_ n1_ n2_ n3_
              (try clear hb)
              (try clear hb2)
              (try clear hk)
              (try clear hi)
              refine hK.out _ _ ⟨(blk_cell BK241.out 0).trans rfl, (blk_cell BK241.out 1).trans rfl, (blk_cell BK242.out 0).trans rfl, (blk_cell BK242.out 1).trans rfl⟩ (fun hHeld => ?_)
              clear hK K
              refine norm_ (a' := ?_) ?_ ?_
              rotate_left
              · show Act.put _ (some 54) _ = _
                simp only [Act.put, List.setIfInBounds_toArray, List.set_cons_zero, List.set_cons_succ, i64_w, i32_w]
                rfl
              refine pure_ (i := 5) (N := some 49) (v := ?_) (a' := ?_) #[true, true, true, true, true, true] rfl rfl (by kernel_rfl) (fun _ _ _ h => h) (Or.inl ⟨by rfl, ?_⟩) ?_ ?_
              rotate_left
              · intro w'
                go_simp
                with_reducible rfl
              rotate_left
              · simp only [Act.put, List.setIfInBounds_toArray, List.set_cons_zero, List.set_cons_succ, i64_w, i32_w]
                rfl
              refine done_ (by kernel_rfl) ?_
              obtain ⟨Ao50, co50, eo50⟩ := Kd.R_slice HO_7.out
              subst eo50
              try go_wp2_with (first | (go_at_call 6; (with_reducible refine (limnerlaw07_awake.calls kj4  t255 _ A45.out).mono ?_); rintro e w51 ⟨rfl, hb⟩; have n0_ := Aside0.mk (Kd.R_below (by (with_reducible repeat (first | apply Kd.R_alloc | apply Kd.R_drewN | apply Kd.R_drew)); exact HO_7.out) hb); have n1_ := Aside0.mk (blk_below (g := gb241) (o := .cells #[.int .i64 a0_0, .int .i64 a0_1] 23 (0, 0)) (by (with_reducible repeat (first | refine blk_drewN ?_ _ | refine blk_drew ?_ | refine blk_alloc ?_ _)); exact BK241.out) hb); have n2_ := Aside0.mk (blk_below (g := gb242) (o := .cells #[.int .i64 a1_0, .int .i64 a1_1] 23 (0, 0)) (by (with_reducible repeat (first | refine blk_drewN ?_ _ | refine blk_drew ?_ | refine blk_alloc ?_ _)); exact BK242.out) hb); have n3_ := Aside0.mk (below_step (by repeat (first | (with_reducible first | exact HB.out | apply below_alloc | apply pw_below_drewN | apply below_drew1 | refine below_set ?_ GE241.out | refine below_set ?_ GE242.out) | exact HB.out)) hb); clear HO_7; clear BK241; clear BK242; clear HB; have HO_7 := n0_; have BK241 := n1_; have BK242 := n2_; have HB := n3_; clear n0_ n1_ n2_ n3_; (try clear hb); (try clear hb2); (try clear hk); (try clear hi)))
              go_ret
              exact ⟨by first | rfl | (simp [errW_none, errW_some] <;> rfl) | (simp [*, errW_none, errW_some] <;> rfl), by repeat (first | (with_reducible first | exact HB.out | apply below_alloc | apply pw_below_drewN | apply below_drew1 | refine below_set ?_ GE241.out | refine below_set ?_ GE242.out) | exact HB.out)⟩
            · rw [if_neg c44] at H
              exact absurd H (by simp)
          · rw [if_neg c43] at H
            exact absurd H (by simp)
        · replace c42 := Bool.eq_false_iff.mpr c42
          subst c42
          have H1 : ((limnerlaw07_ref.f a0_0 a0_1).bind fun bt256 => ((limnerlaw07_ref.f a1_0 a1_1).bind fun bt258 => ((limnerref07_Bar.f kj4 bt256.1 bt256.2 bt258.1 bt258.2 a2).bind fun t260 => ((limnerref07_In.f kj4 t260).bind fun t263 => (if t263 = true then (if t246 = 0 then ((limnerlaw07_same.f kj4 t243 t260).bind fun t264 => (if t264 = true then ((limnerlaw07_awake.f kj4).bind fun t265 => (some t265)) else (none))) else (none)) else (if t246 = 10 then (if (t243.length : Int) = 0 then ((limnerlaw07_awake.f kj4).bind fun t266 => (some t266)) else (none)) else (none))))))) = some r := by rw [if_neg (show ¬ (false = true) by decide)] at H; exact H
          clear H
          have H := H1
          clear H1
          replace H := Option.bind_eq_some_iff.mp H
          obtain ⟨⟨t256, t257⟩, A520, H⟩ := H
          have E53 := A39.out.symm.trans A520
          simp only [Option.some.injEq, Prod.mk.injEq] at E53
          obtain ⟨rfl, rfl⟩ := E53
          replace H : ((limnerlaw07_ref.f a1_0 a1_1).bind fun bt258 => ((limnerref07_Bar.f kj4 t250 t251 bt258.1 bt258.2 a2).bind fun t260 => ((limnerref07_In.f kj4 t260).bind fun t263 => (if t263 = true then (if t246 = 0 then ((limnerlaw07_same.f kj4 t243 t260).bind fun t264 => (if t264 = true then ((limnerlaw07_awake.f kj4).bind fun t265 => (some t265)) else (none))) else (none)) else (if t246 = 10 then (if (t243.length : Int) = 0 then ((limnerlaw07_awake.f kj4).bind fun t266 => (some t266)) else (none)) else (none)))))) = some r := H
          have A52 := Aside0.mk A520
          clear A520
          replace H := Option.bind_eq_some_iff.mp H
          obtain ⟨⟨t258, t259⟩, A540, H⟩ := H
          have E55 := A40.out.symm.trans A540
          simp only [Option.some.injEq, Prod.mk.injEq] at E55
          obtain ⟨rfl, rfl⟩ := E55
          replace H : ((limnerref07_Bar.f kj4 t250 t251 t252 t253 a2).bind fun t260 => ((limnerref07_In.f kj4 t260).bind fun t263 => (if t263 = true then (if t246 = 0 then ((limnerlaw07_same.f kj4 t243 t260).bind fun t264 => (if t264 = true then ((limnerlaw07_awake.f kj4).bind fun t265 => (some t265)) else (none))) else (none)) else (if t246 = 10 then (if (t243.length : Int) = 0 then ((limnerlaw07_awake.f kj4).bind fun t266 => (some t266)) else (none)) else (none))))) = some r := H
          have A54 := Aside0.mk A540
          clear A540
          replace H := Option.bind_eq_some_iff.mp H
          obtain ⟨t260, A560, H⟩ := H
          replace H : ((limnerref07_In.f kj4 t260).bind fun t263 => (if t263 = true then (if t246 = 0 then ((limnerlaw07_same.f kj4 t243 t260).bind fun t264 => (if t264 = true then ((limnerlaw07_awake.f kj4).bind fun t265 => (some t265)) else (none))) else (none)) else (if t246 = 10 then (if (t243.length : Int) = 0 then ((limnerlaw07_awake.f kj4).bind fun t266 => (some t266)) else (none)) else (none)))) = some r := H
          have A56 := Aside0.mk A560
          clear A560
          replace H := Option.bind_eq_some_iff.mp H
          obtain ⟨t263, A570, H⟩ := H
          replace H : (if t263 = true then (if t246 = 0 then ((limnerlaw07_same.f kj4 t243 t260).bind fun t264 => (if t264 = true then ((limnerlaw07_awake.f kj4).bind fun t265 => (some t265)) else (none))) else (none)) else (if t246 = 10 then (if (t243.length : Int) = 0 then ((limnerlaw07_awake.f kj4).bind fun t266 => (some t266)) else (none)) else (none))) = some r := H
          have A57 := Aside0.mk A570
          clear A570
          by_cases c58 : t263 = true
          · subst c58
            have H1 : (if t246 = 0 then ((limnerlaw07_same.f kj4 t243 t260).bind fun t264 => (if t264 = true then ((limnerlaw07_awake.f kj4).bind fun t265 => (some t265)) else (none))) else (none)) = some r := by rw [if_pos rfl] at H; exact H
            clear H
            have H := H1
            clear H1
            by_cases c59 : t246 = 0
            · rw [if_pos c59] at H
              have c59b0 : (t246 == 0) = true := beq_iff_eq.mpr c59
              have c59b1 : (t246 != 0) = false := bne_eq_false_iff_eq.mpr c59
              clear c59
              replace H := Option.bind_eq_some_iff.mp H
              obtain ⟨t264, A600, H⟩ := H
              replace H : (if t264 = true then ((limnerlaw07_awake.f kj4).bind fun t265 => (some t265)) else (none)) = some r := H
              have A60 := Aside0.mk A600
              clear A600
              by_cases c61 : t264 = true
              · subst c61
                have H1 : ((limnerlaw07_awake.f kj4).bind fun t265 => (some t265)) = some r := by rw [if_pos rfl] at H; exact H
                clear H
                have H := H1
                clear H1
                replace H := Option.bind_eq_some_iff.mp H
                obtain ⟨t265, A620, H⟩ := H
                replace H : (some t265) = some r := H
                have A62 := Aside0.mk A620
                clear A620
                obtain rfl := Option.some.inj H
                try go_wp2
                have n0_ := Aside0.mk (Kd.R_drew HO_7.out)
                have n1_ := Aside0.mk (blk_drew BK241.out)
                have n2_ := Aside0.mk (blk_drew BK242.out)
                have n3_ := Aside0.mk (below_drew1 HB.out)
                clear HO_7
                clear BK241
                clear BK242
                clear HB
                have HO_7 := n0_
                have BK241 := n1_
                have BK242 := n2_
                have HB := n3_
                clear n0_ n1_ n2_ n3_
                refine start_ (n := 6) (S := fun w' => w'.cell? ⟨gb241, 0, none⟩ = some (.int .i64 a0_0) ∧ w'.cell? ⟨gb241, 1, none⟩ = some (.int .i64 a0_1) ∧ w'.cell? ⟨gb242, 0, none⟩ = some (.int .i64 a1_0) ∧ w'.cell? ⟨gb242, 1, none⟩ = some (.int .i64 a1_1)) (ds := []) #[false, false, false, false, false, false] (by kernel_rfl) rfl rfl ⟨(blk_cell BK241.out 0).trans rfl, (blk_cell BK241.out 1).trans rfl, (blk_cell BK242.out 0).trans rfl, (blk_cell BK242.out 1).trans rfl⟩ (fun hHeld => ?_)
                generalize wc.drew = w63 at HO_7 BK241 BK242 HB hHeld ⊢
                refine take_ (i := 0) (N := some 50) (v := ?_) (a' := ?_) #[true, false, false, false, false, false] rfl rfl (by kernel_rfl) (fun _ _ _ h => h) (Or.inl ⟨by rfl, ?_⟩) hHeld ?_ ?_
                rotate_left
                · rintro w' ⟨s0, s1, s2, s3⟩
                  go_simp
                  with_reducible rfl
                rotate_left
                · simp only [Act.put, List.setIfInBounds_toArray, List.set_cons_zero, List.set_cons_succ, i64_w, i32_w]
                  rfl
                refine take_ (i := 2) (N := some 52) (v := ?_) (a' := ?_) #[true, false, true, false, false, false] rfl rfl (by kernel_rfl) (fun _ _ _ h => h) (Or.inl ⟨by rfl, ?_⟩) hHeld ?_ ?_
                rotate_left
                · rintro w' ⟨s0, s1, s2, s3⟩
                  go_simp
                  with_reducible rfl
                rotate_left
                · simp only [Act.put, List.setIfInBounds_toArray, List.set_cons_zero, List.set_cons_succ, i64_w, i32_w]
                  rfl
                refine one_ (i := 1) (N := some 51) #[true, true, true, false, false, false] rfl rfl (by kernel_rfl) (by decide) (fun K hK => ?_)
                refine goes_ Try.func8 (by kernel_rfl) rfl #[.agg #[.int .i64 a0_0, .int .i64 a0_1]] (by rfl) rfl rfl (by (try simp only [List.map_toArray, List.map_cons, List.map_nil]); first | done | rfl | (simp only [List.length_drop, List.length_take]; rfl)) ?_
                with_reducible refine (limnerlaw07_ref.calls a0_0 a0_1 t250 t251 _ A39.out).mono ?_
                rintro e w64 ⟨rfl, hb⟩
                refine ⟨_, rfl, ?_⟩
                have n0_ := Aside0.mk (Kd.R_below (by (with_reducible repeat (first | apply Kd.R_alloc | apply Kd.R_drewN | apply Kd.R_drew)); exact HO_7.out) hb)
                have n1_ := Aside0.mk (blk_below (g := gb241) (o := .cells #[.int .i64 a0_0, .int .i64 a0_1] 23 (0, 0)) (by (with_reducible repeat (first | refine blk_drewN ?_ _ | refine blk_drew ?_ | refine blk_alloc ?_ _)); exact BK241.out) hb)
                have n2_ := Aside0.mk (blk_below (g := gb242) (o := .cells #[.int .i64 a1_0, .int .i64 a1_1] 23 (0, 0)) (by (with_reducible repeat (first | refine blk_drewN ?_ _ | refine blk_drew ?_ | refine blk_alloc ?_ _)); exact BK242.out) hb)
                have n3_ := Aside0.mk (below_step (by repeat (first | (with_reducible first | exact HB.out | apply below_alloc | apply pw_below_drewN | apply below_drew1 | refine below_set ?_ GE241.out | refine below_set ?_ GE242.out) | exact HB.out)) hb)
                clear HO_7
                clear BK241
                clear BK242
                clear HB
                have HO_7 := n0_
                have BK241 := n1_
                have BK242 := n2_
                have HB := n3_
                clear n0_ n1_ n2_ n3_
                (try clear hb)
                (try clear hb2)
                (try clear hk)
                (try clear hi)
                refine hK.out _ _ ⟨(blk_cell BK241.out 0).trans rfl, (blk_cell BK241.out 1).trans rfl, (blk_cell BK242.out 0).trans rfl, (blk_cell BK242.out 1).trans rfl⟩ (fun hHeld => ?_)
                clear hK K
                refine norm_ (a' := ?_) ?_ ?_
                rotate_left
                · show Act.put _ (some 51) _ = _
                  simp only [Act.put, List.setIfInBounds_toArray, List.set_cons_zero, List.set_cons_succ, i64_w, i32_w]
                  rfl
                refine one_ (i := 3) (N := some 53) #[true, true, true, true, false, false] rfl rfl (by kernel_rfl) (by decide) (fun K hK => ?_)
                refine goes_ Try.func8 (by kernel_rfl) rfl #[.agg #[.int .i64 a1_0, .int .i64 a1_1]] (by rfl) rfl rfl (by (try simp only [List.map_toArray, List.map_cons, List.map_nil]); first | done | rfl | (simp only [List.length_drop, List.length_take]; rfl)) ?_
                with_reducible refine (limnerlaw07_ref.calls a1_0 a1_1 t252 t253 _ A40.out).mono ?_
                rintro e w65 ⟨rfl, hb⟩
                refine ⟨_, rfl, ?_⟩
                have n0_ := Aside0.mk (Kd.R_below (by (with_reducible repeat (first | apply Kd.R_alloc | apply Kd.R_drewN | apply Kd.R_drew)); exact HO_7.out) hb)
                have n1_ := Aside0.mk (blk_below (g := gb241) (o := .cells #[.int .i64 a0_0, .int .i64 a0_1] 23 (0, 0)) (by (with_reducible repeat (first | refine blk_drewN ?_ _ | refine blk_drew ?_ | refine blk_alloc ?_ _)); exact BK241.out) hb)
                have n2_ := Aside0.mk (blk_below (g := gb242) (o := .cells #[.int .i64 a1_0, .int .i64 a1_1] 23 (0, 0)) (by (with_reducible repeat (first | refine blk_drewN ?_ _ | refine blk_drew ?_ | refine blk_alloc ?_ _)); exact BK242.out) hb)
                have n3_ := Aside0.mk (below_step (by repeat (first | (with_reducible first | exact HB.out | apply below_alloc | apply pw_below_drewN | apply below_drew1 | refine below_set ?_ GE241.out | refine below_set ?_ GE242.out) | exact HB.out)) hb)
                clear HO_7
                clear BK241
                clear BK242
                clear HB
                have HO_7 := n0_
                have BK241 := n1_
                have BK242 := n2_
                have HB := n3_
                clear n0_ n1_ n2_ n3_
                (try clear hb)
                (try clear hb2)
                (try clear hk)
                (try clear hi)
                refine hK.out _ _ ⟨(blk_cell BK241.out 0).trans rfl, (blk_cell BK241.out 1).trans rfl, (blk_cell BK242.out 0).trans rfl, (blk_cell BK242.out 1).trans rfl⟩ (fun hHeld => ?_)
                clear hK K
                refine norm_ (a' := ?_) ?_ ?_
                rotate_left
                · show Act.put _ (some 53) _ = _
                  simp only [Act.put, List.setIfInBounds_toArray, List.set_cons_zero, List.set_cons_succ, i64_w, i32_w]
                  rfl
                refine one_ (i := 4) (N := some 54) #[true, true, true, true, true, false] rfl rfl (by kernel_rfl) (by decide) (fun K hK => ?_)
                refine goes_ Try.func7 (by kernel_rfl) rfl #[.agg #[.int .i64 t250, .int .i64 t251], .agg #[.int .i64 t252, .int .i64 t253]] (by rfl) rfl rfl (by (try simp only [List.map_toArray, List.map_cons, List.map_nil]); first | done | rfl | (simp only [List.length_drop, List.length_take]; rfl)) ?_
                with_reducible refine (limnerref07_Long.calls t250 t251 t252 t253 false _ A41.out).mono ?_
                rintro e w66 ⟨rfl, hb⟩
                refine ⟨_, rfl, ?_⟩
                have n0_ := Aside0.mk (Kd.R_below (by (with_reducible repeat (first | apply Kd.R_alloc | apply Kd.R_drewN | apply Kd.R_drew)); exact HO_7.out) hb)
                have n1_ := Aside0.mk (blk_below (g := gb241) (o := .cells #[.int .i64 a0_0, .int .i64 a0_1] 23 (0, 0)) (by (with_reducible repeat (first | refine blk_drewN ?_ _ | refine blk_drew ?_ | refine blk_alloc ?_ _)); exact BK241.out) hb)
                have n2_ := Aside0.mk (blk_below (g := gb242) (o := .cells #[.int .i64 a1_0, .int .i64 a1_1] 23 (0, 0)) (by (with_reducible repeat (first | refine blk_drewN ?_ _ | refine blk_drew ?_ | refine blk_alloc ?_ _)); exact BK242.out) hb)
                have n3_ := Aside0.mk (below_step (by repeat (first | (with_reducible first | exact HB.out | apply below_alloc | apply pw_below_drewN | apply below_drew1 | refine below_set ?_ GE241.out | refine below_set ?_ GE242.out) | exact HB.out)) hb)
                clear HO_7
                clear BK241
                clear BK242
                clear HB
                have HO_7 := n0_
                have BK241 := n1_
                have BK242 := n2_
                have HB := n3_
                clear n0_ n1_ n2_ n3_
                (try clear hb)
                (try clear hb2)
                (try clear hk)
                (try clear hi)
                refine hK.out _ _ ⟨(blk_cell BK241.out 0).trans rfl, (blk_cell BK241.out 1).trans rfl, (blk_cell BK242.out 0).trans rfl, (blk_cell BK242.out 1).trans rfl⟩ (fun hHeld => ?_)
                clear hK K
                refine norm_ (a' := ?_) ?_ ?_
                rotate_left
                · show Act.put _ (some 54) _ = _
                  simp only [Act.put, List.setIfInBounds_toArray, List.set_cons_zero, List.set_cons_succ, i64_w, i32_w]
                  rfl
                refine pure_ (i := 5) (N := some 49) (v := ?_) (a' := ?_) #[true, true, true, true, true, true] rfl rfl (by kernel_rfl) (fun _ _ _ h => h) (Or.inl ⟨by rfl, ?_⟩) ?_ ?_
                rotate_left
                · intro w'
                  go_simp
                  with_reducible rfl
                rotate_left
                · simp only [Act.put, List.setIfInBounds_toArray, List.set_cons_zero, List.set_cons_succ, i64_w, i32_w]
                  rfl
                refine done_ (by kernel_rfl) ?_
                try go_wp2
                have n0_ := Aside0.mk (Kd.R_drew HO_7.out)
                have n1_ := Aside0.mk (blk_drew BK241.out)
                have n2_ := Aside0.mk (blk_drew BK242.out)
                have n3_ := Aside0.mk (below_drew1 HB.out)
                clear HO_7
                clear BK241
                clear BK242
                clear HB
                have HO_7 := n0_
                have BK241 := n1_
                have BK242 := n2_
                have HB := n3_
                clear n0_ n1_ n2_ n3_
                refine start_ (n := 7) (S := fun w' => w'.cell? ⟨gb241, 0, none⟩ = some (.int .i64 a0_0) ∧ w'.cell? ⟨gb241, 1, none⟩ = some (.int .i64 a0_1) ∧ w'.cell? ⟨gb242, 0, none⟩ = some (.int .i64 a1_0) ∧ w'.cell? ⟨gb242, 1, none⟩ = some (.int .i64 a1_1)) (ds := []) #[false, false, false, false, false, false, false] (by kernel_rfl) rfl rfl ⟨(blk_cell BK241.out 0).trans rfl, (blk_cell BK241.out 1).trans rfl, (blk_cell BK242.out 0).trans rfl, (blk_cell BK242.out 1).trans rfl⟩ (fun hHeld => ?_)
                generalize w66.drew = w67 at HO_7 BK241 BK242 HB hHeld ⊢
                refine pure_ (i := 4) (N := some 69) (v := ?_) (a' := ?_) #[false, false, false, false, true, false, false] rfl rfl (by kernel_rfl) (fun _ _ _ h => h) (Or.inl ⟨by rfl, ?_⟩) ?_ ?_
                rotate_left
                · intro w'
                  go_simp
                  with_reducible rfl
                rotate_left
                · simp only [Act.put, List.setIfInBounds_toArray, List.set_cons_zero, List.set_cons_succ, i64_w, i32_w]
                  rfl
                refine take_ (i := 0) (N := some 65) (v := ?_) (a' := ?_) #[true, false, false, false, true, false, false] rfl rfl (by kernel_rfl) (fun _ _ _ h => h) (Or.inl ⟨by rfl, ?_⟩) hHeld ?_ ?_
                rotate_left
                · rintro w' ⟨s0, s1, s2, s3⟩
                  go_simp
                  with_reducible rfl
                rotate_left
                · simp only [Act.put, List.setIfInBounds_toArray, List.set_cons_zero, List.set_cons_succ, i64_w, i32_w]
                  rfl
                refine take_ (i := 2) (N := some 67) (v := ?_) (a' := ?_) #[true, false, true, false, true, false, false] rfl rfl (by kernel_rfl) (fun _ _ _ h => h) (Or.inl ⟨by rfl, ?_⟩) hHeld ?_ ?_
                rotate_left
                · rintro w' ⟨s0, s1, s2, s3⟩
                  go_simp
                  with_reducible rfl
                rotate_left
                · simp only [Act.put, List.setIfInBounds_toArray, List.set_cons_zero, List.set_cons_succ, i64_w, i32_w]
                  rfl
                refine one_ (i := 1) (N := some 66) #[true, true, true, false, true, false, false] rfl rfl (by kernel_rfl) (by decide) (fun K hK => ?_)
                refine goes_ Try.func8 (by kernel_rfl) rfl #[.agg #[.int .i64 a0_0, .int .i64 a0_1]] (by rfl) rfl rfl (by (try simp only [List.map_toArray, List.map_cons, List.map_nil]); first | done | rfl | (simp only [List.length_drop, List.length_take]; rfl)) ?_
                with_reducible refine (limnerlaw07_ref.calls a0_0 a0_1 t250 t251 _ A52.out).mono ?_
                rintro e w68 ⟨rfl, hb⟩
                refine ⟨_, rfl, ?_⟩
                have n0_ := Aside0.mk (Kd.R_below (by (with_reducible repeat (first | apply Kd.R_alloc | apply Kd.R_drewN | apply Kd.R_drew)); exact HO_7.out) hb)
                have n1_ := Aside0.mk (blk_below (g := gb241) (o := .cells #[.int .i64 a0_0, .int .i64 a0_1] 23 (0, 0)) (by (with_reducible repeat (first | refine blk_drewN ?_ _ | refine blk_drew ?_ | refine blk_alloc ?_ _)); exact BK241.out) hb)
                have n2_ := Aside0.mk (blk_below (g := gb242) (o := .cells #[.int .i64 a1_0, .int .i64 a1_1] 23 (0, 0)) (by (with_reducible repeat (first | refine blk_drewN ?_ _ | refine blk_drew ?_ | refine blk_alloc ?_ _)); exact BK242.out) hb)
                have n3_ := Aside0.mk (below_step (by repeat (first | (with_reducible first | exact HB.out | apply below_alloc | apply pw_below_drewN | apply below_drew1 | refine below_set ?_ GE241.out | refine below_set ?_ GE242.out) | exact HB.out)) hb)
                clear HO_7
                clear BK241
                clear BK242
                clear HB
                have HO_7 := n0_
                have BK241 := n1_
                have BK242 := n2_
                have HB := n3_
                clear n0_ n1_ n2_ n3_
                (try clear hb)
                (try clear hb2)
                (try clear hk)
                (try clear hi)
                refine hK.out _ _ ⟨(blk_cell BK241.out 0).trans rfl, (blk_cell BK241.out 1).trans rfl, (blk_cell BK242.out 0).trans rfl, (blk_cell BK242.out 1).trans rfl⟩ (fun hHeld => ?_)
                clear hK K
                refine norm_ (a' := ?_) ?_ ?_
                rotate_left
                · show Act.put _ (some 66) _ = _
                  simp only [Act.put, List.setIfInBounds_toArray, List.set_cons_zero, List.set_cons_succ, i64_w, i32_w]
                  rfl
                refine one_ (i := 3) (N := some 68) #[true, true, true, true, true, false, false] rfl rfl (by kernel_rfl) (by decide) (fun K hK => ?_)
                refine goes_ Try.func8 (by kernel_rfl) rfl #[.agg #[.int .i64 a1_0, .int .i64 a1_1]] (by rfl) rfl rfl (by (try simp only [List.map_toArray, List.map_cons, List.map_nil]); first | done | rfl | (simp only [List.length_drop, List.length_take]; rfl)) ?_
                with_reducible refine (limnerlaw07_ref.calls a1_0 a1_1 t252 t253 _ A54.out).mono ?_
                rintro e w69 ⟨rfl, hb⟩
                refine ⟨_, rfl, ?_⟩
                have n0_ := Aside0.mk (Kd.R_below (by (with_reducible repeat (first | apply Kd.R_alloc | apply Kd.R_drewN | apply Kd.R_drew)); exact HO_7.out) hb)
                have n1_ := Aside0.mk (blk_below (g := gb241) (o := .cells #[.int .i64 a0_0, .int .i64 a0_1] 23 (0, 0)) (by (with_reducible repeat (first | refine blk_drewN ?_ _ | refine blk_drew ?_ | refine blk_alloc ?_ _)); exact BK241.out) hb)
                have n2_ := Aside0.mk (blk_below (g := gb242) (o := .cells #[.int .i64 a1_0, .int .i64 a1_1] 23 (0, 0)) (by (with_reducible repeat (first | refine blk_drewN ?_ _ | refine blk_drew ?_ | refine blk_alloc ?_ _)); exact BK242.out) hb)
                have n3_ := Aside0.mk (below_step (by repeat (first | (with_reducible first | exact HB.out | apply below_alloc | apply pw_below_drewN | apply below_drew1 | refine below_set ?_ GE241.out | refine below_set ?_ GE242.out) | exact HB.out)) hb)
                clear HO_7
                clear BK241
                clear BK242
                clear HB
                have HO_7 := n0_
                have BK241 := n1_
                have BK242 := n2_
                have HB := n3_
                clear n0_ n1_ n2_ n3_
                (try clear hb)
                (try clear hb2)
                (try clear hk)
                (try clear hi)
                refine hK.out _ _ ⟨(blk_cell BK241.out 0).trans rfl, (blk_cell BK241.out 1).trans rfl, (blk_cell BK242.out 0).trans rfl, (blk_cell BK242.out 1).trans rfl⟩ (fun hHeld => ?_)
                clear hK K
                refine norm_ (a' := ?_) ?_ ?_
                rotate_left
                · show Act.put _ (some 68) _ = _
                  simp only [Act.put, List.setIfInBounds_toArray, List.set_cons_zero, List.set_cons_succ, i64_w, i32_w]
                  rfl
                refine one_ (i := 5) (N := some 70) #[true, true, true, true, true, true, false] rfl rfl (by kernel_rfl) (by decide) (fun K hK => ?_)
                refine goes_ Try.func9 (by kernel_rfl) rfl #[.agg #[.int .i64 t250, .int .i64 t251], .agg #[.int .i64 t252, .int .i64 t253], .int .i64 a2] (by rfl) rfl rfl (by (try simp only [List.map_toArray, List.map_cons, List.map_nil]); first | done | rfl | (simp only [List.length_drop, List.length_take]; rfl)) ?_
                with_reducible refine (limnerref07_Bar.calls kj4 t250 t251 t252 t253 a2 t260 _ A56.out).mono ?_
                rintro e w70 ⟨v261, rfl, ho0, hb⟩
                refine ⟨_, rfl, ?_⟩
                have n0_ := Aside0.mk (Kd.R_below (by (with_reducible repeat (first | apply Kd.R_alloc | apply Kd.R_drewN | apply Kd.R_drew)); exact HO_7.out) hb)
                have n1_ := Aside0.mk (Kd.R_lower ho0 (below_size (by repeat (first | (with_reducible first | exact HB.out | apply below_alloc | apply pw_below_drewN | apply below_drew1 | refine below_set ?_ GE241.out | refine below_set ?_ GE242.out) | exact HB.out))))
                have n2_ := Aside0.mk (blk_below (g := gb241) (o := .cells #[.int .i64 a0_0, .int .i64 a0_1] 23 (0, 0)) (by (with_reducible repeat (first | refine blk_drewN ?_ _ | refine blk_drew ?_ | refine blk_alloc ?_ _)); exact BK241.out) hb)
                have n3_ := Aside0.mk (blk_below (g := gb242) (o := .cells #[.int .i64 a1_0, .int .i64 a1_1] 23 (0, 0)) (by (with_reducible repeat (first | refine blk_drewN ?_ _ | refine blk_drew ?_ | refine blk_alloc ?_ _)); exact BK242.out) hb)
                have n4_ := Aside0.mk (below_step (by repeat (first | (with_reducible first | exact HB.out | apply below_alloc | apply pw_below_drewN | apply below_drew1 | refine below_set ?_ GE241.out | refine below_set ?_ GE242.out) | exact HB.out)) hb)
                clear HO_7
                clear BK241
                clear BK242
                clear HB
                have HO_7 := n0_
                have HO262 := n1_
                have BK241 := n2_
                have BK242 := n3_
                have HB := n4_
                clear n0_ n1_ n2_ n3_ n4_
                (try clear hb)
                (try clear hb2)
                (try clear hk)
                (try clear hi)
                (try clear ho0)
                refine hK.out _ _ ⟨(blk_cell BK241.out 0).trans rfl, (blk_cell BK241.out 1).trans rfl, (blk_cell BK242.out 0).trans rfl, (blk_cell BK242.out 1).trans rfl⟩ (fun hHeld => ?_)
                clear hK K
                refine norm_ (a' := ?_) ?_ ?_
                rotate_left
                · show Act.put _ (some 70) _ = _
                  simp only [Act.put, List.setIfInBounds_toArray, List.set_cons_zero, List.set_cons_succ, i64_w, i32_w]
                  rfl
                refine pure_ (i := 6) (N := some 9) (v := ?_) (a' := ?_) #[true, true, true, true, true, true, true] rfl rfl (by kernel_rfl) (fun _ _ _ h => h) (Or.inl ⟨by rfl, ?_⟩) ?_ ?_
                rotate_left
                · intro w'
                  go_simp
                  with_reducible rfl
                rotate_left
                · simp only [Act.put, List.setIfInBounds_toArray, List.set_cons_zero, List.set_cons_succ, i64_w, i32_w]
                  rfl
                refine done_ (by kernel_rfl) ?_
                obtain ⟨Ao71, co71, eo71⟩ := Kd.R_slice HO262.out
                subst eo71
                try go_wp2_with (first | ((with_reducible refine gate_callee (f := 10) rfl ?_); refine goesL_ (some 72) rfl rfl Try.func10 (by kernel_rfl) rfl #[.slice Ao71 t260.length co71] rfl (by (try simp only [List.map_toArray, List.map_cons, List.map_nil]); first | done | rfl | (simp only [List.length_drop, List.length_take]; rfl)) ?_; (with_reducible refine (limnerref07_In.calls kj4 _ _ t260 true _ ?side1 ?side2 A57.out).mono ?_); (case side1 => repeat (first | exact (Kd.R_reads' HO262.out).2.2 | (with_reducible refine Kd.C_alloc ?_ _) | (with_reducible refine Kd.C_drewN ?_ _) | (with_reducible refine Kd.C_drew ?_))); (case side2 => exact (Kd.R_reads' HO262.out).2.1); rintro e w' ⟨rfl, ⟨nd, rfl⟩⟩; refine ⟨_, rfl, ?_⟩; obtain ⟨Ao72, co72, eo72⟩ := Kd.R_slice HO_7.out; subst eo72) | (go_at_call 11; (with_reducible refine (limnerlaw07_same.calls kj4 _ _ t243 _ _ t260 true _ ?side1 ?side2 ?side3 ?side4 A60.out).mono ?_); (case side1 => repeat (first | exact (Kd.R_reads' HO_7.out).2.2 | (with_reducible refine Kd.C_alloc ?_ _) | (with_reducible refine Kd.C_drewN ?_ _) | (with_reducible refine Kd.C_drew ?_))); (case side2 => exact (Kd.R_reads' HO_7.out).2.1); (case side3 => repeat (first | exact (Kd.R_reads' HO262.out).2.2 | (with_reducible refine Kd.C_alloc ?_ _) | (with_reducible refine Kd.C_drewN ?_ _) | (with_reducible refine Kd.C_drew ?_))); (case side4 => exact (Kd.R_reads' HO262.out).2.1); rintro e w' ⟨rfl, ⟨nd, rfl⟩⟩) | (go_at_call 6; (with_reducible refine (limnerlaw07_awake.calls kj4  t265 _ A62.out).mono ?_); rintro e w73 ⟨rfl, hb⟩; have n0_ := Aside0.mk (Kd.R_below (by (with_reducible repeat (first | apply Kd.R_alloc | apply Kd.R_drewN | apply Kd.R_drew)); exact HO_7.out) hb); have n1_ := Aside0.mk (Kd.R_below (by (with_reducible repeat (first | apply Kd.R_alloc | apply Kd.R_drewN | apply Kd.R_drew)); exact HO262.out) hb); have n2_ := Aside0.mk (blk_below (g := gb241) (o := .cells #[.int .i64 a0_0, .int .i64 a0_1] 23 (0, 0)) (by (with_reducible repeat (first | refine blk_drewN ?_ _ | refine blk_drew ?_ | refine blk_alloc ?_ _)); exact BK241.out) hb); have n3_ := Aside0.mk (blk_below (g := gb242) (o := .cells #[.int .i64 a1_0, .int .i64 a1_1] 23 (0, 0)) (by (with_reducible repeat (first | refine blk_drewN ?_ _ | refine blk_drew ?_ | refine blk_alloc ?_ _)); exact BK242.out) hb); have n4_ := Aside0.mk (below_step (by repeat (first | (with_reducible first | exact HB.out | apply below_alloc | apply pw_below_drewN | apply below_drew1 | refine below_set ?_ GE241.out | refine below_set ?_ GE242.out) | exact HB.out)) hb); clear HO_7; clear HO262; clear BK241; clear BK242; clear HB; have HO_7 := n0_; have HO262 := n1_; have BK241 := n2_; have BK242 := n3_; have HB := n4_; clear n0_ n1_ n2_ n3_ n4_; (try clear hb); (try clear hb2); (try clear hk); (try clear hi)))
                go_ret
                exact ⟨by first | rfl | (simp [errW_none, errW_some] <;> rfl) | (simp [*, errW_none, errW_some] <;> rfl), by repeat (first | (with_reducible first | exact HB.out | apply below_alloc | apply pw_below_drewN | apply below_drew1 | refine below_set ?_ GE241.out | refine below_set ?_ GE242.out) | exact HB.out)⟩
              · replace c61 := Bool.eq_false_iff.mpr c61
                subst c61
                have H1 : (none) = some r := by rw [if_neg (show ¬ (false = true) by decide)] at H; exact H
                clear H
                have H := H1
                clear H1
                exact absurd H (by simp)
            · rw [if_neg c59] at H
              exact absurd H (by simp)
          · replace c58 := Bool.eq_false_iff.mpr c58
            subst c58
            have H1 : (if t246 = 10 then (if (t243.length : Int) = 0 then ((limnerlaw07_awake.f kj4).bind fun t266 => (some t266)) else (none)) else (none)) = some r := by rw [if_neg (show ¬ (false = true) by decide)] at H; exact H
            clear H
            have H := H1
            clear H1
            by_cases c74 : t246 = 10
            · rw [if_pos c74] at H
              have c74b0 : (t246 == 10) = true := beq_iff_eq.mpr c74
              have c74b1 : (t246 != 10) = false := bne_eq_false_iff_eq.mpr c74
              clear c74
              by_cases c75 : (t243.length : Int) = 0
              · rw [if_pos c75] at H
                have c75b0 : ((t243.length : Int) == 0) = true := beq_iff_eq.mpr c75
                have c75b1 : ((t243.length : Int) != 0) = false := bne_eq_false_iff_eq.mpr c75
                clear c75
                replace H := Option.bind_eq_some_iff.mp H
                obtain ⟨t266, A760, H⟩ := H
                replace H : (some t266) = some r := H
                have A76 := Aside0.mk A760
                clear A760
                obtain rfl := Option.some.inj H
                try go_wp2
                have n0_ := Aside0.mk (Kd.R_drew HO_7.out)
                have n1_ := Aside0.mk (blk_drew BK241.out)
                have n2_ := Aside0.mk (blk_drew BK242.out)
                have n3_ := Aside0.mk (below_drew1 HB.out)
                clear HO_7
                clear BK241
                clear BK242
                clear HB
                have HO_7 := n0_
                have BK241 := n1_
                have BK242 := n2_
                have HB := n3_
                clear n0_ n1_ n2_ n3_
                refine start_ (n := 6) (S := fun w' => w'.cell? ⟨gb241, 0, none⟩ = some (.int .i64 a0_0) ∧ w'.cell? ⟨gb241, 1, none⟩ = some (.int .i64 a0_1) ∧ w'.cell? ⟨gb242, 0, none⟩ = some (.int .i64 a1_0) ∧ w'.cell? ⟨gb242, 1, none⟩ = some (.int .i64 a1_1)) (ds := []) #[false, false, false, false, false, false] (by kernel_rfl) rfl rfl ⟨(blk_cell BK241.out 0).trans rfl, (blk_cell BK241.out 1).trans rfl, (blk_cell BK242.out 0).trans rfl, (blk_cell BK242.out 1).trans rfl⟩ (fun hHeld => ?_)
                generalize wc.drew = w77 at HO_7 BK241 BK242 HB hHeld ⊢
                refine take_ (i := 0) (N := some 50) (v := ?_) (a' := ?_) #[true, false, false, false, false, false] rfl rfl (by kernel_rfl) (fun _ _ _ h => h) (Or.inl ⟨by rfl, ?_⟩) hHeld ?_ ?_
                rotate_left
                · rintro w' ⟨s0, s1, s2, s3⟩
                  go_simp
                  with_reducible rfl
                rotate_left
                · simp only [Act.put, List.setIfInBounds_toArray, List.set_cons_zero, List.set_cons_succ, i64_w, i32_w]
                  rfl
                refine take_ (i := 2) (N := some 52) (v := ?_) (a' := ?_) #[true, false, true, false, false, false] rfl rfl (by kernel_rfl) (fun _ _ _ h => h) (Or.inl ⟨by rfl, ?_⟩) hHeld ?_ ?_
                rotate_left
                · rintro w' ⟨s0, s1, s2, s3⟩
                  go_simp
                  with_reducible rfl
                rotate_left
                · simp only [Act.put, List.setIfInBounds_toArray, List.set_cons_zero, List.set_cons_succ, i64_w, i32_w]
                  rfl
                refine one_ (i := 1) (N := some 51) #[true, true, true, false, false, false] rfl rfl (by kernel_rfl) (by decide) (fun K hK => ?_)
                refine goes_ Try.func8 (by kernel_rfl) rfl #[.agg #[.int .i64 a0_0, .int .i64 a0_1]] (by rfl) rfl rfl (by (try simp only [List.map_toArray, List.map_cons, List.map_nil]); first | done | rfl | (simp only [List.length_drop, List.length_take]; rfl)) ?_
                with_reducible refine (limnerlaw07_ref.calls a0_0 a0_1 t250 t251 _ A39.out).mono ?_
                rintro e w78 ⟨rfl, hb⟩
                refine ⟨_, rfl, ?_⟩
                have n0_ := Aside0.mk (Kd.R_below (by (with_reducible repeat (first | apply Kd.R_alloc | apply Kd.R_drewN | apply Kd.R_drew)); exact HO_7.out) hb)
                have n1_ := Aside0.mk (blk_below (g := gb241) (o := .cells #[.int .i64 a0_0, .int .i64 a0_1] 23 (0, 0)) (by (with_reducible repeat (first | refine blk_drewN ?_ _ | refine blk_drew ?_ | refine blk_alloc ?_ _)); exact BK241.out) hb)
                have n2_ := Aside0.mk (blk_below (g := gb242) (o := .cells #[.int .i64 a1_0, .int .i64 a1_1] 23 (0, 0)) (by (with_reducible repeat (first | refine blk_drewN ?_ _ | refine blk_drew ?_ | refine blk_alloc ?_ _)); exact BK242.out) hb)
                have n3_ := Aside0.mk (below_step (by repeat (first | (with_reducible first | exact HB.out | apply below_alloc | apply pw_below_drewN | apply below_drew1 | refine below_set ?_ GE241.out | refine below_set ?_ GE242.out) | exact HB.out)) hb)
                clear HO_7
                clear BK241
                clear BK242
                clear HB
                have HO_7 := n0_
                have BK241 := n1_
                have BK242 := n2_
                have HB := n3_
                clear n0_ n1_ n2_ n3_
                (try clear hb)
                (try clear hb2)
                (try clear hk)
                (try clear hi)
                refine hK.out _ _ ⟨(blk_cell BK241.out 0).trans rfl, (blk_cell BK241.out 1).trans rfl, (blk_cell BK242.out 0).trans rfl, (blk_cell BK242.out 1).trans rfl⟩ (fun hHeld => ?_)
                clear hK K
                refine norm_ (a' := ?_) ?_ ?_
                rotate_left
                · show Act.put _ (some 51) _ = _
                  simp only [Act.put, List.setIfInBounds_toArray, List.set_cons_zero, List.set_cons_succ, i64_w, i32_w]
                  rfl
                refine one_ (i := 3) (N := some 53) #[true, true, true, true, false, false] rfl rfl (by kernel_rfl) (by decide) (fun K hK => ?_)
                refine goes_ Try.func8 (by kernel_rfl) rfl #[.agg #[.int .i64 a1_0, .int .i64 a1_1]] (by rfl) rfl rfl (by (try simp only [List.map_toArray, List.map_cons, List.map_nil]); first | done | rfl | (simp only [List.length_drop, List.length_take]; rfl)) ?_
                with_reducible refine (limnerlaw07_ref.calls a1_0 a1_1 t252 t253 _ A40.out).mono ?_
                rintro e w79 ⟨rfl, hb⟩
                refine ⟨_, rfl, ?_⟩
                have n0_ := Aside0.mk (Kd.R_below (by (with_reducible repeat (first | apply Kd.R_alloc | apply Kd.R_drewN | apply Kd.R_drew)); exact HO_7.out) hb)
                have n1_ := Aside0.mk (blk_below (g := gb241) (o := .cells #[.int .i64 a0_0, .int .i64 a0_1] 23 (0, 0)) (by (with_reducible repeat (first | refine blk_drewN ?_ _ | refine blk_drew ?_ | refine blk_alloc ?_ _)); exact BK241.out) hb)
                have n2_ := Aside0.mk (blk_below (g := gb242) (o := .cells #[.int .i64 a1_0, .int .i64 a1_1] 23 (0, 0)) (by (with_reducible repeat (first | refine blk_drewN ?_ _ | refine blk_drew ?_ | refine blk_alloc ?_ _)); exact BK242.out) hb)
                have n3_ := Aside0.mk (below_step (by repeat (first | (with_reducible first | exact HB.out | apply below_alloc | apply pw_below_drewN | apply below_drew1 | refine below_set ?_ GE241.out | refine below_set ?_ GE242.out) | exact HB.out)) hb)
                clear HO_7
                clear BK241
                clear BK242
                clear HB
                have HO_7 := n0_
                have BK241 := n1_
                have BK242 := n2_
                have HB := n3_
                clear n0_ n1_ n2_ n3_
                (try clear hb)
                (try clear hb2)
                (try clear hk)
                (try clear hi)
                refine hK.out _ _ ⟨(blk_cell BK241.out 0).trans rfl, (blk_cell BK241.out 1).trans rfl, (blk_cell BK242.out 0).trans rfl, (blk_cell BK242.out 1).trans rfl⟩ (fun hHeld => ?_)
                clear hK K
                refine norm_ (a' := ?_) ?_ ?_
                rotate_left
                · show Act.put _ (some 53) _ = _
                  simp only [Act.put, List.setIfInBounds_toArray, List.set_cons_zero, List.set_cons_succ, i64_w, i32_w]
                  rfl
                refine one_ (i := 4) (N := some 54) #[true, true, true, true, true, false] rfl rfl (by kernel_rfl) (by decide) (fun K hK => ?_)
                refine goes_ Try.func7 (by kernel_rfl) rfl #[.agg #[.int .i64 t250, .int .i64 t251], .agg #[.int .i64 t252, .int .i64 t253]] (by rfl) rfl rfl (by (try simp only [List.map_toArray, List.map_cons, List.map_nil]); first | done | rfl | (simp only [List.length_drop, List.length_take]; rfl)) ?_
                with_reducible refine (limnerref07_Long.calls t250 t251 t252 t253 false _ A41.out).mono ?_
                rintro e w80 ⟨rfl, hb⟩
                refine ⟨_, rfl, ?_⟩
                have n0_ := Aside0.mk (Kd.R_below (by (with_reducible repeat (first | apply Kd.R_alloc | apply Kd.R_drewN | apply Kd.R_drew)); exact HO_7.out) hb)
                have n1_ := Aside0.mk (blk_below (g := gb241) (o := .cells #[.int .i64 a0_0, .int .i64 a0_1] 23 (0, 0)) (by (with_reducible repeat (first | refine blk_drewN ?_ _ | refine blk_drew ?_ | refine blk_alloc ?_ _)); exact BK241.out) hb)
                have n2_ := Aside0.mk (blk_below (g := gb242) (o := .cells #[.int .i64 a1_0, .int .i64 a1_1] 23 (0, 0)) (by (with_reducible repeat (first | refine blk_drewN ?_ _ | refine blk_drew ?_ | refine blk_alloc ?_ _)); exact BK242.out) hb)
                have n3_ := Aside0.mk (below_step (by repeat (first | (with_reducible first | exact HB.out | apply below_alloc | apply pw_below_drewN | apply below_drew1 | refine below_set ?_ GE241.out | refine below_set ?_ GE242.out) | exact HB.out)) hb)
                clear HO_7
                clear BK241
                clear BK242
                clear HB
                have HO_7 := n0_
                have BK241 := n1_
                have BK242 := n2_
                have HB := n3_
                clear n0_ n1_ n2_ n3_
                (try clear hb)
                (try clear hb2)
                (try clear hk)
                (try clear hi)
                refine hK.out _ _ ⟨(blk_cell BK241.out 0).trans rfl, (blk_cell BK241.out 1).trans rfl, (blk_cell BK242.out 0).trans rfl, (blk_cell BK242.out 1).trans rfl⟩ (fun hHeld => ?_)
                clear hK K
                refine norm_ (a' := ?_) ?_ ?_
                rotate_left
                · show Act.put _ (some 54) _ = _
                  simp only [Act.put, List.setIfInBounds_toArray, List.set_cons_zero, List.set_cons_succ, i64_w, i32_w]
                  rfl
                refine pure_ (i := 5) (N := some 49) (v := ?_) (a' := ?_) #[true, true, true, true, true, true] rfl rfl (by kernel_rfl) (fun _ _ _ h => h) (Or.inl ⟨by rfl, ?_⟩) ?_ ?_
                rotate_left
                · intro w'
                  go_simp
                  with_reducible rfl
                rotate_left
                · simp only [Act.put, List.setIfInBounds_toArray, List.set_cons_zero, List.set_cons_succ, i64_w, i32_w]
                  rfl
                refine done_ (by kernel_rfl) ?_
                try go_wp2
                have n0_ := Aside0.mk (Kd.R_drew HO_7.out)
                have n1_ := Aside0.mk (blk_drew BK241.out)
                have n2_ := Aside0.mk (blk_drew BK242.out)
                have n3_ := Aside0.mk (below_drew1 HB.out)
                clear HO_7
                clear BK241
                clear BK242
                clear HB
                have HO_7 := n0_
                have BK241 := n1_
                have BK242 := n2_
                have HB := n3_
                clear n0_ n1_ n2_ n3_
                refine start_ (n := 7) (S := fun w' => w'.cell? ⟨gb241, 0, none⟩ = some (.int .i64 a0_0) ∧ w'.cell? ⟨gb241, 1, none⟩ = some (.int .i64 a0_1) ∧ w'.cell? ⟨gb242, 0, none⟩ = some (.int .i64 a1_0) ∧ w'.cell? ⟨gb242, 1, none⟩ = some (.int .i64 a1_1)) (ds := []) #[false, false, false, false, false, false, false] (by kernel_rfl) rfl rfl ⟨(blk_cell BK241.out 0).trans rfl, (blk_cell BK241.out 1).trans rfl, (blk_cell BK242.out 0).trans rfl, (blk_cell BK242.out 1).trans rfl⟩ (fun hHeld => ?_)
                generalize w80.drew = w81 at HO_7 BK241 BK242 HB hHeld ⊢
                refine pure_ (i := 4) (N := some 69) (v := ?_) (a' := ?_) #[false, false, false, false, true, false, false] rfl rfl (by kernel_rfl) (fun _ _ _ h => h) (Or.inl ⟨by rfl, ?_⟩) ?_ ?_
                rotate_left
                · intro w'
                  go_simp
                  with_reducible rfl
                rotate_left
                · simp only [Act.put, List.setIfInBounds_toArray, List.set_cons_zero, List.set_cons_succ, i64_w, i32_w]
                  rfl
                refine take_ (i := 0) (N := some 65) (v := ?_) (a' := ?_) #[true, false, false, false, true, false, false] rfl rfl (by kernel_rfl) (fun _ _ _ h => h) (Or.inl ⟨by rfl, ?_⟩) hHeld ?_ ?_
                rotate_left
                · rintro w' ⟨s0, s1, s2, s3⟩
                  go_simp
                  with_reducible rfl
                rotate_left
                · simp only [Act.put, List.setIfInBounds_toArray, List.set_cons_zero, List.set_cons_succ, i64_w, i32_w]
                  rfl
                refine take_ (i := 2) (N := some 67) (v := ?_) (a' := ?_) #[true, false, true, false, true, false, false] rfl rfl (by kernel_rfl) (fun _ _ _ h => h) (Or.inl ⟨by rfl, ?_⟩) hHeld ?_ ?_
                rotate_left
                · rintro w' ⟨s0, s1, s2, s3⟩
                  go_simp
                  with_reducible rfl
                rotate_left
                · simp only [Act.put, List.setIfInBounds_toArray, List.set_cons_zero, List.set_cons_succ, i64_w, i32_w]
                  rfl
                refine one_ (i := 1) (N := some 66) #[true, true, true, false, true, false, false] rfl rfl (by kernel_rfl) (by decide) (fun K hK => ?_)
                refine goes_ Try.func8 (by kernel_rfl) rfl #[.agg #[.int .i64 a0_0, .int .i64 a0_1]] (by rfl) rfl rfl (by (try simp only [List.map_toArray, List.map_cons, List.map_nil]); first | done | rfl | (simp only [List.length_drop, List.length_take]; rfl)) ?_
                with_reducible refine (limnerlaw07_ref.calls a0_0 a0_1 t250 t251 _ A52.out).mono ?_
                rintro e w82 ⟨rfl, hb⟩
                refine ⟨_, rfl, ?_⟩
                have n0_ := Aside0.mk (Kd.R_below (by (with_reducible repeat (first | apply Kd.R_alloc | apply Kd.R_drewN | apply Kd.R_drew)); exact HO_7.out) hb)
                have n1_ := Aside0.mk (blk_below (g := gb241) (o := .cells #[.int .i64 a0_0, .int .i64 a0_1] 23 (0, 0)) (by (with_reducible repeat (first | refine blk_drewN ?_ _ | refine blk_drew ?_ | refine blk_alloc ?_ _)); exact BK241.out) hb)
                have n2_ := Aside0.mk (blk_below (g := gb242) (o := .cells #[.int .i64 a1_0, .int .i64 a1_1] 23 (0, 0)) (by (with_reducible repeat (first | refine blk_drewN ?_ _ | refine blk_drew ?_ | refine blk_alloc ?_ _)); exact BK242.out) hb)
                have n3_ := Aside0.mk (below_step (by repeat (first | (with_reducible first | exact HB.out | apply below_alloc | apply pw_below_drewN | apply below_drew1 | refine below_set ?_ GE241.out | refine below_set ?_ GE242.out) | exact HB.out)) hb)
                clear HO_7
                clear BK241
                clear BK242
                clear HB
                have HO_7 := n0_
                have BK241 := n1_
                have BK242 := n2_
                have HB := n3_
                clear n0_ n1_ n2_ n3_
                (try clear hb)
                (try clear hb2)
                (try clear hk)
                (try clear hi)
                refine hK.out _ _ ⟨(blk_cell BK241.out 0).trans rfl, (blk_cell BK241.out 1).trans rfl, (blk_cell BK242.out 0).trans rfl, (blk_cell BK242.out 1).trans rfl⟩ (fun hHeld => ?_)
                clear hK K
                refine norm_ (a' := ?_) ?_ ?_
                rotate_left
                · show Act.put _ (some 66) _ = _
                  simp only [Act.put, List.setIfInBounds_toArray, List.set_cons_zero, List.set_cons_succ, i64_w, i32_w]
                  rfl
                refine one_ (i := 3) (N := some 68) #[true, true, true, true, true, false, false] rfl rfl (by kernel_rfl) (by decide) (fun K hK => ?_)
                refine goes_ Try.func8 (by kernel_rfl) rfl #[.agg #[.int .i64 a1_0, .int .i64 a1_1]] (by rfl) rfl rfl (by (try simp only [List.map_toArray, List.map_cons, List.map_nil]); first | done | rfl | (simp only [List.length_drop, List.length_take]; rfl)) ?_
                with_reducible refine (limnerlaw07_ref.calls a1_0 a1_1 t252 t253 _ A54.out).mono ?_
                rintro e w83 ⟨rfl, hb⟩
                refine ⟨_, rfl, ?_⟩
                have n0_ := Aside0.mk (Kd.R_below (by (with_reducible repeat (first | apply Kd.R_alloc | apply Kd.R_drewN | apply Kd.R_drew)); exact HO_7.out) hb)
                have n1_ := Aside0.mk (blk_below (g := gb241) (o := .cells #[.int .i64 a0_0, .int .i64 a0_1] 23 (0, 0)) (by (with_reducible repeat (first | refine blk_drewN ?_ _ | refine blk_drew ?_ | refine blk_alloc ?_ _)); exact BK241.out) hb)
                have n2_ := Aside0.mk (blk_below (g := gb242) (o := .cells #[.int .i64 a1_0, .int .i64 a1_1] 23 (0, 0)) (by (with_reducible repeat (first | refine blk_drewN ?_ _ | refine blk_drew ?_ | refine blk_alloc ?_ _)); exact BK242.out) hb)
                have n3_ := Aside0.mk (below_step (by repeat (first | (with_reducible first | exact HB.out | apply below_alloc | apply pw_below_drewN | apply below_drew1 | refine below_set ?_ GE241.out | refine below_set ?_ GE242.out) | exact HB.out)) hb)
                clear HO_7
                clear BK241
                clear BK242
                clear HB
                have HO_7 := n0_
                have BK241 := n1_
                have BK242 := n2_
                have HB := n3_
                clear n0_ n1_ n2_ n3_
                (try clear hb)
                (try clear hb2)
                (try clear hk)
                (try clear hi)
                refine hK.out _ _ ⟨(blk_cell BK241.out 0).trans rfl, (blk_cell BK241.out 1).trans rfl, (blk_cell BK242.out 0).trans rfl, (blk_cell BK242.out 1).trans rfl⟩ (fun hHeld => ?_)
                clear hK K
                refine norm_ (a' := ?_) ?_ ?_
                rotate_left
                · show Act.put _ (some 68) _ = _
                  simp only [Act.put, List.setIfInBounds_toArray, List.set_cons_zero, List.set_cons_succ, i64_w, i32_w]
                  rfl
                refine one_ (i := 5) (N := some 70) #[true, true, true, true, true, true, false] rfl rfl (by kernel_rfl) (by decide) (fun K hK => ?_)
                refine goes_ Try.func9 (by kernel_rfl) rfl #[.agg #[.int .i64 t250, .int .i64 t251], .agg #[.int .i64 t252, .int .i64 t253], .int .i64 a2] (by rfl) rfl rfl (by (try simp only [List.map_toArray, List.map_cons, List.map_nil]); first | done | rfl | (simp only [List.length_drop, List.length_take]; rfl)) ?_
                with_reducible refine (limnerref07_Bar.calls kj4 t250 t251 t252 t253 a2 t260 _ A56.out).mono ?_
                rintro e w84 ⟨v261, rfl, ho0, hb⟩
                refine ⟨_, rfl, ?_⟩
                have n0_ := Aside0.mk (Kd.R_below (by (with_reducible repeat (first | apply Kd.R_alloc | apply Kd.R_drewN | apply Kd.R_drew)); exact HO_7.out) hb)
                have n1_ := Aside0.mk (Kd.R_lower ho0 (below_size (by repeat (first | (with_reducible first | exact HB.out | apply below_alloc | apply pw_below_drewN | apply below_drew1 | refine below_set ?_ GE241.out | refine below_set ?_ GE242.out) | exact HB.out))))
                have n2_ := Aside0.mk (blk_below (g := gb241) (o := .cells #[.int .i64 a0_0, .int .i64 a0_1] 23 (0, 0)) (by (with_reducible repeat (first | refine blk_drewN ?_ _ | refine blk_drew ?_ | refine blk_alloc ?_ _)); exact BK241.out) hb)
                have n3_ := Aside0.mk (blk_below (g := gb242) (o := .cells #[.int .i64 a1_0, .int .i64 a1_1] 23 (0, 0)) (by (with_reducible repeat (first | refine blk_drewN ?_ _ | refine blk_drew ?_ | refine blk_alloc ?_ _)); exact BK242.out) hb)
                have n4_ := Aside0.mk (below_step (by repeat (first | (with_reducible first | exact HB.out | apply below_alloc | apply pw_below_drewN | apply below_drew1 | refine below_set ?_ GE241.out | refine below_set ?_ GE242.out) | exact HB.out)) hb)
                clear HO_7
                clear BK241
                clear BK242
                clear HB
                have HO_7 := n0_
                have HO262 := n1_
                have BK241 := n2_
                have BK242 := n3_
                have HB := n4_
                clear n0_ n1_ n2_ n3_ n4_
                (try clear hb)
                (try clear hb2)
                (try clear hk)
                (try clear hi)
                (try clear ho0)
                refine hK.out _ _ ⟨(blk_cell BK241.out 0).trans rfl, (blk_cell BK241.out 1).trans rfl, (blk_cell BK242.out 0).trans rfl, (blk_cell BK242.out 1).trans rfl⟩ (fun hHeld => ?_)
                clear hK K
                refine norm_ (a' := ?_) ?_ ?_
                rotate_left
                · show Act.put _ (some 70) _ = _
                  simp only [Act.put, List.setIfInBounds_toArray, List.set_cons_zero, List.set_cons_succ, i64_w, i32_w]
                  rfl
                refine pure_ (i := 6) (N := some 9) (v := ?_) (a' := ?_) #[true, true, true, true, true, true, true] rfl rfl (by kernel_rfl) (fun _ _ _ h => h) (Or.inl ⟨by rfl, ?_⟩) ?_ ?_
                rotate_left
                · intro w'
                  go_simp
                  with_reducible rfl
                rotate_left
                · simp only [Act.put, List.setIfInBounds_toArray, List.set_cons_zero, List.set_cons_succ, i64_w, i32_w]
                  rfl
                refine done_ (by kernel_rfl) ?_
                obtain ⟨Ao85, co85, eo85⟩ := Kd.R_slice HO262.out
                subst eo85
                try go_wp2_with (first | ((with_reducible refine gate_callee (f := 10) rfl ?_); refine goesL_ (some 72) rfl rfl Try.func10 (by kernel_rfl) rfl #[.slice Ao85 t260.length co85] rfl (by (try simp only [List.map_toArray, List.map_cons, List.map_nil]); first | done | rfl | (simp only [List.length_drop, List.length_take]; rfl)) ?_; (with_reducible refine (limnerref07_In.calls kj4 _ _ t260 false _ ?side1 ?side2 A57.out).mono ?_); (case side1 => repeat (first | exact (Kd.R_reads' HO262.out).2.2 | (with_reducible refine Kd.C_alloc ?_ _) | (with_reducible refine Kd.C_drewN ?_ _) | (with_reducible refine Kd.C_drew ?_))); (case side2 => exact (Kd.R_reads' HO262.out).2.1); rintro e w' ⟨rfl, ⟨nd, rfl⟩⟩; refine ⟨_, rfl, ?_⟩; obtain ⟨Ao86, co86, eo86⟩ := Kd.R_slice HO_7.out; subst eo86) | (go_at_call 6; (with_reducible refine (limnerlaw07_awake.calls kj4  t266 _ A76.out).mono ?_); rintro e w87 ⟨rfl, hb⟩; have n0_ := Aside0.mk (Kd.R_below (by (with_reducible repeat (first | apply Kd.R_alloc | apply Kd.R_drewN | apply Kd.R_drew)); exact HO_7.out) hb); have n1_ := Aside0.mk (Kd.R_below (by (with_reducible repeat (first | apply Kd.R_alloc | apply Kd.R_drewN | apply Kd.R_drew)); exact HO262.out) hb); have n2_ := Aside0.mk (blk_below (g := gb241) (o := .cells #[.int .i64 a0_0, .int .i64 a0_1] 23 (0, 0)) (by (with_reducible repeat (first | refine blk_drewN ?_ _ | refine blk_drew ?_ | refine blk_alloc ?_ _)); exact BK241.out) hb); have n3_ := Aside0.mk (blk_below (g := gb242) (o := .cells #[.int .i64 a1_0, .int .i64 a1_1] 23 (0, 0)) (by (with_reducible repeat (first | refine blk_drewN ?_ _ | refine blk_drew ?_ | refine blk_alloc ?_ _)); exact BK242.out) hb); have n4_ := Aside0.mk (below_step (by repeat (first | (with_reducible first | exact HB.out | apply below_alloc | apply pw_below_drewN | apply below_drew1 | refine below_set ?_ GE241.out | refine below_set ?_ GE242.out) | exact HB.out)) hb); clear HO_7; clear HO262; clear BK241; clear BK242; clear HB; have HO_7 := n0_; have HO262 := n1_; have BK241 := n2_; have BK242 := n3_; have HB := n4_; clear n0_ n1_ n2_ n3_ n4_; (try clear hb); (try clear hb2); (try clear hk); (try clear hi)))
                go_ret
                exact ⟨by first | rfl | (simp [errW_none, errW_some] <;> rfl) | (simp [*, errW_none, errW_some] <;> rfl), by repeat (first | (with_reducible first | exact HB.out | apply below_alloc | apply pw_below_drewN | apply below_drew1 | refine below_set ?_ GE241.out | refine below_set ?_ GE242.out) | exact HB.out)⟩
              · rw [if_neg c75] at H
                exact absurd H (by simp)
            · rw [if_neg c74] at H
              exact absurd H (by simp)

/-- THE ONE PURE STATEMENT of limnerlaw07_StrokeBars. -/
def limnerlaw07_StrokeBars.Pure : Prop := ∀ (a0_0 : Int) (a0_1 : Int) (a1_0 : Int) (a1_1 : Int) (a2 : Int), ((-9223372036854775808 ≤ a0_0 ∧ a0_0 ≤ 9223372036854775807) ∧ (-9223372036854775808 ≤ a0_1 ∧ a0_1 ≤ 9223372036854775807)) → ((-9223372036854775808 ≤ a1_0 ∧ a1_0 ≤ 9223372036854775807) ∧ (-9223372036854775808 ≤ a1_1 ∧ a1_1 ≤ 9223372036854775807)) → (-9223372036854775808 ≤ a2 ∧ a2 ≤ 9223372036854775807) → ∃ k, limnerlaw07_StrokeBars.f k a0_0 a0_1 a1_0 a1_1 a2 = some true
theorem limnerlaw07_StrokeBars.walk (P : limnerlaw07_StrokeBars.Pure) (a0_0 : Int) (a0_1 : Int) (a1_0 : Int) (a1_1 : Int) (a2 : Int) (w : World)  (y0 : ((-9223372036854775808 ≤ a0_0 ∧ a0_0 ≤ 9223372036854775807) ∧ (-9223372036854775808 ≤ a0_1 ∧ a0_1 ≤ 9223372036854775807))) (y1 : ((-9223372036854775808 ≤ a1_0 ∧ a1_0 ≤ 9223372036854775807) ∧ (-9223372036854775808 ≤ a1_1 ∧ a1_1 ≤ 9223372036854775807))) (y2 : (-9223372036854775808 ≤ a2 ∧ a2 ≤ 9223372036854775807)) :
    Calls Try.prog 3 #[.agg #[.int .i64 a0_0, .int .i64 a0_1], .agg #[.int .i64 a1_0, .int .i64 a1_1], .int .i64 a2] w fun e w' => e = .returned (.bool true) ∧ Below w.heap.size w w' := by
  obtain ⟨k, h⟩ := P a0_0 a0_1 a1_0 a1_1 a2 y0 y1 y2
  refine (limnerlaw07_StrokeBars.calls k a0_0 a0_1 a1_0 a1_1 a2 true w  h).mono ?_
  rintro e w' ⟨rfl, hd⟩
  exact ⟨rfl, hd⟩

end Go.Proofs.Ytidpeongblkcbaa.X
