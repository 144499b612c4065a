-- Made by xprint.py (this session's own driver of the kit's print) out of the translation; Lean checks it.
import Derived.Test.YtfhjndnempmcaaaXx0
import Derived.Test.YtfhjndnempmcaaaXx5
namespace Go.Proofs.Ytfhjndnempmcaaa.X
open Go.Proofs.Ytfhjndnempmcaaa
open Go.RowKit Go.Proofs.YtfhjndnempmcaaaW.PrintWords Go.Proofs.YtfhjndnempmcaaaW.PrintLast Go.Proofs.YtfhjndnempmcaaaW.PrintMore
attribute [local go_sem] max2_int min2_int max_two min_two max_three min_three max_four min_four   -- for this text's walks alone
set_option linter.unusedVariables false
set_option linter.unusedSimpArgs false

/-! ### geom_Winds: function 12 -/
mutual
def geom_Winds.l0 : Nat → List (S24) → Int → List (S24) → Int → Int → Int → Int → Option (Int)
  | 0, _, _, _, _, _, _, _ => none
  | k + 1, x0, x5, x9, x10, x11, x130000, x130001 => if x11 < x10 then (if 0 ≤ x11 then (if x11 < (x9.length : Int) then (if (x0.length : Int) = 0 then (none) else (if 0 ≤ (Int.tmod (wrap64 ((wrap64 (x11 + (x0.length : Int))) - 1)) (x0.length : Int)) then (if (Int.tmod (wrap64 ((wrap64 (x11 + (x0.length : Int))) - 1)) (x0.length : Int)) < (x0.length : Int) then (if ((rd_T24 x0 (Int.tmod (wrap64 ((wrap64 (x11 + (x0.length : Int))) - 1)) (x0.length : Int))).f1) ≤ x130001 then (if x130001 < ((rd_T24 x9 x11).f1) then ((geom_Side.f k ((rd_T24 x0 (Int.tmod (wrap64 ((wrap64 (x11 + (x0.length : Int))) - 1)) (x0.length : Int))).f0) ((rd_T24 x0 (Int.tmod (wrap64 ((wrap64 (x11 + (x0.length : Int))) - 1)) (x0.length : Int))).f1) ((rd_T24 x9 x11).f0) ((rd_T24 x9 x11).f1) x130000 x130001).bind fun t134 => (geom_Winds.j1 k x0 x5 x9 x10 x11 (decide (t134 > 0)) x130000 x130001 ((rd_T24 x9 x11).f0) ((rd_T24 x9 x11).f1) ((rd_T24 x0 (Int.tmod (wrap64 ((wrap64 (x11 + (x0.length : Int))) - 1)) (x0.length : Int))).f0) ((rd_T24 x0 (Int.tmod (wrap64 ((wrap64 (x11 + (x0.length : Int))) - 1)) (x0.length : Int))).f1))) else (geom_Winds.j1 k x0 x5 x9 x10 x11 false x130000 x130001 ((rd_T24 x9 x11).f0) ((rd_T24 x9 x11).f1) ((rd_T24 x0 (Int.tmod (wrap64 ((wrap64 (x11 + (x0.length : Int))) - 1)) (x0.length : Int))).f0) ((rd_T24 x0 (Int.tmod (wrap64 ((wrap64 (x11 + (x0.length : Int))) - 1)) (x0.length : Int))).f1))) else (geom_Winds.j1 k x0 x5 x9 x10 x11 false x130000 x130001 ((rd_T24 x9 x11).f0) ((rd_T24 x9 x11).f1) ((rd_T24 x0 (Int.tmod (wrap64 ((wrap64 (x11 + (x0.length : Int))) - 1)) (x0.length : Int))).f0) ((rd_T24 x0 (Int.tmod (wrap64 ((wrap64 (x11 + (x0.length : Int))) - 1)) (x0.length : Int))).f1))) else (none)) else (none))) else (none)) else (none)) else (some x5)
def geom_Winds.j1 : Nat → List (S24) → Int → List (S24) → Int → Int → Bool → Int → Int → Int → Int → Int → Int → Option (Int)
  | 0, _, _, _, _, _, _, _, _, _, _, _, _ => none
  | k + 1, x0, x5, x9, x10, x11, x27, x130000, x130001, x132000, x132001, x134000, x134001 => if x27 = true then (geom_Winds.l0 k x0 (wrap64 (x5 + 1)) x9 x10 (wrap64 (x11 + 1)) x130000 x130001) else (if x132001 ≤ x130001 then (if x130001 < x134001 then ((geom_Side.f k x134000 x134001 x132000 x132001 x130000 x130001).bind fun t135 => (if t135 < 0 then (geom_Winds.l0 k x0 (wrap64 (x5 - 1)) x9 x10 (wrap64 (x11 + 1)) x130000 x130001) else (geom_Winds.l0 k x0 x5 x9 x10 (wrap64 (x11 + 1)) x130000 x130001))) else (geom_Winds.l0 k x0 x5 x9 x10 (wrap64 (x11 + 1)) x130000 x130001)) else (geom_Winds.l0 k x0 x5 x9 x10 (wrap64 (x11 + 1)) x130000 x130001))
end
def geom_Winds.f (k : Nat) (l0 : List (S24)) (a1_0 : Int) (a1_1 : Int) : Option (Int) := geom_Winds.l0 k l0 0 l0 (l0.length : Int) 0 a1_0 a1_1
theorem geom_Winds.mono_l : ∀ k, (∀ y0 y1 y2 y3 y4 y5 y6, LeO (geom_Winds.l0 k y0 y1 y2 y3 y4 y5 y6) (geom_Winds.l0 (k + 1) y0 y1 y2 y3 y4 y5 y6)) ∧ (∀ y0 y1 y2 y3 y4 y5 y6 y7 y8 y9 y10 y11, LeO (geom_Winds.j1 k y0 y1 y2 y3 y4 y5 y6 y7 y8 y9 y10 y11) (geom_Winds.j1 (k + 1) y0 y1 y2 y3 y4 y5 y6 y7 y8 y9 y10 y11))
  | 0 => ⟨fun _ _ _ _ _ _ _ r h => by simp [geom_Winds.l0] at h, fun _ _ _ _ _ _ _ _ _ _ _ _ r h => by simp [geom_Winds.j1] at h⟩
  | k + 1 => by
    obtain ⟨ih0, ih1⟩ := geom_Winds.mono_l k
    refine ⟨?_, ?_⟩
    · intro y0 y1 y2 y3 y4 y5 y6
      unfold geom_Winds.l0
      repeat' first
      | (with_reducible exact ih0 _ _ _ _ _ _ _)
      | (with_reducible exact ih1 _ _ _ _ _ _ _ _ _ _ _ _)
      | (with_reducible exact geom_Side.mono _ _ _ _ _ _ _)
      | (with_reducible exact LeO.refl _)
      | (with_reducible exact LeO.none _)
      | (with_reducible refine LeO.ite ?_ ?_)
      | (with_reducible refine LeO.bind ?_ (fun _ => ?_))
      | exact ih0 _ _ _ _ _ _ _
      | exact ih1 _ _ _ _ _ _ _ _ _ _ _ _
      | exact geom_Side.mono _ _ _ _ _ _ _
      | exact LeO.none _
      | refine LeO.ite ?_ ?_
      | refine LeO.bind ?_ (fun _ => ?_)
    · intro y0 y1 y2 y3 y4 y5 y6 y7 y8 y9 y10 y11
      unfold geom_Winds.j1
      repeat' first
      | (with_reducible exact ih0 _ _ _ _ _ _ _)
      | (with_reducible exact ih1 _ _ _ _ _ _ _ _ _ _ _ _)
      | (with_reducible exact geom_Side.mono _ _ _ _ _ _ _)
      | (with_reducible exact LeO.refl _)
      | (with_reducible exact LeO.none _)
      | (with_reducible refine LeO.ite ?_ ?_)
      | (with_reducible refine LeO.bind ?_ (fun _ => ?_))
      | exact ih0 _ _ _ _ _ _ _
      | exact ih1 _ _ _ _ _ _ _ _ _ _ _ _
      | exact geom_Side.mono _ _ _ _ _ _ _
      | exact LeO.none _
      | refine LeO.ite ?_ ?_
      | refine LeO.bind ?_ (fun _ => ?_)
theorem geom_Winds.mono : ∀ a0 a1 a2 k, LeO (geom_Winds.f k a0 a1 a2) (geom_Winds.f (k + 1) a0 a1 a2) := by
  intro a0 a1 a2 k
  obtain ⟨ih0, ih1⟩ := geom_Winds.mono_l k
  unfold geom_Winds.f
  repeat' first
      | (with_reducible exact ih0 _ _ _ _ _ _ _)
      | (with_reducible exact ih1 _ _ _ _ _ _ _ _ _ _ _ _)
      | (with_reducible exact geom_Side.mono _ _ _ _ _ _ _)
      | (with_reducible exact LeO.refl _)
      | (with_reducible exact LeO.none _)
      | (with_reducible refine LeO.ite ?_ ?_)
      | (with_reducible refine LeO.bind ?_ (fun _ => ?_))
      | exact ih0 _ _ _ _ _ _ _
      | exact ih1 _ _ _ _ _ _ _ _ _ _ _ _
      | exact geom_Side.mono _ _ _ _ _ _ _
      | exact LeO.none _
      | refine LeO.ite ?_ ?_
      | refine LeO.bind ?_ (fun _ => ?_)
set_option maxHeartbeats 8000000 in
set_option maxRecDepth 100000 in
theorem geom_Winds.calls (k : Nat) (A0 : Option Addr) (c0 : Nat) (l0 : List (S24)) (a1_0 : Int) (a1_1 : Int) (r : Int) (w : World) (hr0 : Kd.C k24 w A0 l0.length l0) (hc0 : l0.length ≤ c0) (h : geom_Winds.f k l0 a1_0 a1_1 = some r) :
    Calls Try.prog 12 #[.slice A0 l0.length c0, .agg #[.int .i64 a1_0, .int .i64 a1_1]] w fun e w' => e = .returned (.int .i64 r) ∧ Below w.heap.size w w' := by
  have hu24 := Try.underlying24
  have HR0 := Aside0.mk hr0
  have HC0 := Aside0.mk hc0
  clear hr0 hc0
  have HB := Aside0.mk (Below.refl w.heap.size w)
  have H : (geom_Winds.l0 k l0 0 l0 (l0.length : Int) 0 a1_0 a1_1) = some r := h
  clear h
  have H' := Aside0.mk H
  clear H
  go_enter Try.func12, Try.ntmps12
  go_wp2_with (first | ((with_reducible refine gate_dst (N := 3) rfl ?_); refine box_event ?hg (N := 3) ?hd (cs := #[.int .i64 a1_0, .int .i64 a1_1]) (t := 24) ?hr ?_; (case hd => rfl); (case hg => rfl); (case hr => first | (go_simp; done) | (go_simp; rfl)); intro gb129 hg w3 hbox hb; have n0_ := Aside0.mk (below_step (by repeat (first | (with_reducible first | exact HB.out | apply below_alloc | apply pw_below_drewN | apply below_drew1) | exact HB.out)) hb); have n1_ := Aside0.mk (hbox); have n2_ := Aside0.mk ((by rw [hg]; exact (below_size (by repeat (first | (with_reducible first | exact HB.out | apply below_alloc | apply pw_below_drewN | apply below_drew1) | exact HB.out))) : w.heap.size ≤ gb129)); have n3_ := Aside0.mk ((by rw [hg]; exact (below_size (by repeat (first | (with_reducible first | exact HB.out | apply below_alloc | apply pw_below_drewN | apply below_drew1) | exact HB.out))) : w.heap.size ≤ gb129)); clear HB; have HB := n0_; have BK129 := n1_; have GW129 := n2_; have GE129 := n3_; clear n0_ n1_ n2_ n3_; clear hb hbox hg))
  go_loopg [5, 11] k (fun kq v5 v11 w' => ∃ (x5_1 : Int) (x11_1 : Int), v5 = .int .i64 x5_1 ∧ v11 = .int .i64 x11_1 ∧ Aside0 (geom_Winds.l0 kq l0 x5_1 l0 (l0.length : Int) x11_1 a1_0 a1_1 = some r) ∧ Aside0 (kq ≤ k) ∧ Aside0 (w'.heap[gb129]? = some (.cells #[.int .i64 a1_0, .int .i64 a1_1] 24 (0, 0))) ∧ Aside0 (Below w.heap.size w w'))
  case atStart => exact ⟨(0), (0), (by first | rfl | (simp; done) | (simp [*]; done)), (by first | rfl | (simp; done) | (simp [*]; done)), H', ⟨Nat.le_refl _⟩, ⟨by (with_reducible repeat (first | refine blk_drewN ?_ _ | refine blk_drew ?_ | refine blk_alloc ?_ _)); exact BK129.out⟩, ⟨by repeat (first | (with_reducible first | exact HB.out | apply below_alloc | apply pw_below_drewN | apply below_drew1 | refine below_set ?_ GE129.out) | exact HB.out)⟩⟩
  case round =>
    clear H'
    try clear c1
    try clear p2
    obtain ⟨x5_1, x11_1, rfl, rfl, HA, HK1, BK129, HB⟩ := hrel
    cases gk with
    | zero => exact absurd HA.out (by simp [geom_Winds.l0])
    | succ k1 =>
      have H := HA.out
      clear HA
      simp only [geom_Winds.l0] at H
      by_cases c4 : x11_1 < (l0.length : Int)
      · rw [if_pos c4] at H
        have c4b0 : decide (x11_1 < (l0.length : Int)) = true := decide_eq_true c4
        clear c4
        by_cases c5 : 0 ≤ x11_1
        · rw [if_pos c5] at H
          have c5b0 : decide (0 ≤ x11_1) = true := decide_eq_true c5
          clear c5
          by_cases c6 : x11_1 < (l0.length : Int)
          · rw [if_pos c6] at H
            have c6b0 : decide (x11_1 < (l0.length : Int)) = true := decide_eq_true c6
            clear c6
            by_cases c7 : (l0.length : Int) = 0
            · rw [if_pos c7] at H
              exact absurd H (by simp)
            · rw [if_neg c7] at H
              have c7b0 : ((l0.length : Int) == 0) = false := beq_eq_false_iff_ne.mpr c7
              have c7b1 : ((l0.length : Int) != 0) = true := bne_iff_ne.mpr c7
              have c7b2 : ¬ (l0 = []) := fun h_ => c7 (by rw [h_]; rfl)
              obtain ⟨ji8, hji8⟩ : ∃ j_ : Int, (Int.tmod (wrap64 ((wrap64 (x11_1 + (l0.length : Int))) - 1)) (l0.length : Int)) = j_ := ⟨_, rfl⟩
              replace H : (if 0 ≤ (ji8) then (if (ji8) < (l0.length : Int) then (if ((rd_T24 l0 (ji8)).f1) ≤ a1_1 then (if a1_1 < ((rd_T24 l0 x11_1).f1) then ((geom_Side.f k1 ((rd_T24 l0 (ji8)).f0) ((rd_T24 l0 (ji8)).f1) ((rd_T24 l0 x11_1).f0) ((rd_T24 l0 x11_1).f1) a1_0 a1_1).bind fun t134 => (geom_Winds.j1 k1 l0 x5_1 l0 (l0.length : Int) x11_1 (decide (t134 > 0)) a1_0 a1_1 ((rd_T24 l0 x11_1).f0) ((rd_T24 l0 x11_1).f1) ((rd_T24 l0 (ji8)).f0) ((rd_T24 l0 (ji8)).f1))) else (geom_Winds.j1 k1 l0 x5_1 l0 (l0.length : Int) x11_1 false a1_0 a1_1 ((rd_T24 l0 x11_1).f0) ((rd_T24 l0 x11_1).f1) ((rd_T24 l0 (ji8)).f0) ((rd_T24 l0 (ji8)).f1))) else (geom_Winds.j1 k1 l0 x5_1 l0 (l0.length : Int) x11_1 false a1_0 a1_1 ((rd_T24 l0 x11_1).f0) ((rd_T24 l0 x11_1).f1) ((rd_T24 l0 (ji8)).f0) ((rd_T24 l0 (ji8)).f1))) else (none)) else (none)) = some r := by first | (rw [hji8] at H; exact H) | (simp only [hji8] at H ⊢; exact H)
              by_cases c9 : 0 ≤ (ji8)
              · rw [if_pos c9] at H
                have c9b0 : decide (0 ≤ (ji8)) = true := decide_eq_true c9
                clear c9
                by_cases c10 : (ji8) < (l0.length : Int)
                · rw [if_pos c10] at H
                  have c10b0 : decide ((ji8) < (l0.length : Int)) = true := decide_eq_true c10
                  clear c10
                  have HC11 := Aside0.mk H
                  clear H
                  have p130 : 0 ≤ (x11_1 : Int) := of_decide_eq_true (by first | (with_reducible assumption) | assumption)
                  have q130 : x11_1 < (l0.length : Int) := of_decide_eq_true (by first | (with_reducible assumption) | assumption)
                  obtain ⟨ad130, e130, hx130_0, hx130_1⟩ := at_T24 HR0.out x11_1 p130 q130
                  cases e130
                  replace hx130_0 := (HB.out.cell (World.block_lt_of_cell? w _ hx130_0)).trans hx130_0
                  replace hx130_1 := (HB.out.cell (World.block_lt_of_cell? w _ hx130_1)).trans hx130_1
                  replace p130 := eq_true p130
                  replace q130 := eq_true q130
                  go_upto_region 6 with (first | ((with_reducible refine gate_dst (N := 7) rfl ?_); refine box_event ?hg (N := 7) ?hd (cs := #[.int .i64 0, .int .i64 0]) (t := 24) ?hr ?_; (case hd => rfl); (case hg => rfl); (case hr => first | (go_simp; done) | (go_simp; rfl)); intro gb131 hg w12 hbox hb; have n0_ := Aside0.mk (blk_below (g := gb129) (o := .cells #[.int .i64 a1_0, .int .i64 a1_1] 24 (0, 0)) (by (with_reducible repeat (first | refine blk_drewN ?_ _ | refine blk_drew ?_ | refine blk_alloc ?_ _)); exact BK129.out) hb); have n1_ := Aside0.mk (below_step (by repeat (first | (with_reducible first | exact HB.out | apply below_alloc | apply pw_below_drewN | apply below_drew1 | refine below_set ?_ GE129.out) | exact HB.out)) hb); have n2_ := Aside0.mk (hbox); have n3_ := Aside0.mk ((by rw [hg]; exact (below_size (by repeat (first | (with_reducible first | exact HB.out | apply below_alloc | apply pw_below_drewN | apply below_drew1 | refine below_set ?_ GE129.out) | exact HB.out))) : w.heap.size ≤ gb131)); have n4_ := Aside0.mk ((by rw [hg]; exact (below_size (by repeat (first | (with_reducible first | exact HB.out | apply below_alloc | apply pw_below_drewN | apply below_drew1 | refine below_set ?_ GE129.out) | exact HB.out))) : w.heap.size ≤ gb131)); have n5_ := Aside0.mk ((by rw [hg]; exact Nat.ne_of_lt (blk_lt (g := gb129) (o := .cells #[.int .i64 a1_0, .int .i64 a1_1] 24 (0, 0)) (by (with_reducible repeat (first | refine blk_drewN ?_ _ | refine blk_drew ?_ | refine blk_alloc ?_ _)); exact BK129.out)) : gb129 ≠ gb131)); have n6_ := Aside0.mk ((by rw [hg]; exact Nat.ne_of_gt (blk_lt (g := gb129) (o := .cells #[.int .i64 a1_0, .int .i64 a1_1] 24 (0, 0)) (by (with_reducible repeat (first | refine blk_drewN ?_ _ | refine blk_drew ?_ | refine blk_alloc ?_ _)); exact BK129.out)) : gb131 ≠ gb129)); clear BK129; clear HB; have BK129 := n0_; have HB := n1_; have BK131 := n2_; have GW131 := n3_; have GE131 := n4_; have NB129_131 := n5_; have NB131_129 := n6_; clear n0_ n1_ n2_ n3_ n4_ n5_ n6_; clear hb hbox hg; have hnb13 := NB131_129.out; have hnc13 := NB129_131.out; have hcz14_0 : w12.cell? ⟨gb131, 0, none⟩ = some (.int .i64 0) := (blk_cell BK131.out 0).trans rfl; have hcz14_1 : w12.cell? ⟨gb131, 1, none⟩ = some (.int .i64 0) := (blk_cell BK131.out 1).trans rfl; have hfz14_0 := blk_frozen BK131.out 0; have hfz14_1 := blk_frozen BK131.out 1; have p132 : 0 ≤ ((ji8) : Int) := of_decide_eq_true (by first | (with_reducible assumption) | assumption); have q132 : (ji8) < (l0.length : Int) := of_decide_eq_true (by first | (with_reducible assumption) | assumption); obtain ⟨ad132, e132, hx132_0, hx132_1⟩ := at_T24 HR0.out (ji8) p132 q132; obtain rfl : ad130 = ad132 := (by injection e132); have hn132_0 : ad130.block ≠ gb131 := Nat.ne_of_lt (Nat.lt_of_lt_of_le (by have := World.block_lt_of_cell? _ _ hx132_0; first | rwa [add_block] at this | exact this) GW131.out); have hn132_1 : ad130.block ≠ gb131 := Nat.ne_of_lt (Nat.lt_of_lt_of_le (by have := World.block_lt_of_cell? _ _ hx132_0; first | rwa [add_block] at this | exact this) GW131.out); replace hx132_0 := (HB.out.cell (World.block_lt_of_cell? w _ hx132_0)).trans hx132_0; replace hx132_1 := (HB.out.cell (World.block_lt_of_cell? w _ hx132_1)).trans hx132_1; replace hx132_0 := (cell_far (p := ⟨gb131, 0, none⟩) (by first | (rw [add_block]; exact hn132_0) | (show (Addr.add _ _).block ≠ _; rw [add_block]; exact hn132_0) | exact hn132_0) (.int .i64 ((rd_T24 l0 x11_1).f0))).trans hx132_0; replace hx132_1 := (cell_far (p := ⟨gb131, 0, none⟩) (by first | (rw [add_block]; exact hn132_0) | (show (Addr.add _ _).block ≠ _; rw [add_block]; exact hn132_0) | exact hn132_0) (.int .i64 ((rd_T24 l0 x11_1).f0))).trans hx132_1; replace hx132_0 := (cell_far (p := ⟨gb131, 1, none⟩) (by first | (rw [add_block]; exact hn132_1) | (show (Addr.add _ _).block ≠ _; rw [add_block]; exact hn132_1) | exact hn132_1) (.int .i64 ((rd_T24 l0 x11_1).f1))).trans hx132_0; replace hx132_1 := (cell_far (p := ⟨gb131, 1, none⟩) (by first | (rw [add_block]; exact hn132_1) | (show (Addr.add _ _).block ≠ _; rw [add_block]; exact hn132_1) | exact hn132_1) (.int .i64 ((rd_T24 l0 x11_1).f1))).trans hx132_1; clear hn132_0; clear hn132_1; replace p132 := eq_true p132; replace q132 := eq_true q132) | ((with_reducible refine gate_dst (N := 8) rfl ?_); refine box_event ?hg (N := 8) ?hd (cs := #[.int .i64 0, .int .i64 0]) (t := 24) ?hr ?_; (case hd => rfl); (case hg => rfl); (case hr => first | (go_simp; done) | (go_simp; rfl)); intro gb133 hg w15 hbox hb; have n0_ := Aside0.mk (blk_below (g := gb129) (o := .cells #[.int .i64 a1_0, .int .i64 a1_1] 24 (0, 0)) (by (with_reducible repeat (first | refine blk_drewN ?_ _ | refine blk_drew ?_ | refine blk_alloc ?_ _)); refine blk_far ?_ NB129_131.out _; (with_reducible repeat (first | refine blk_drewN ?_ _ | refine blk_drew ?_ | refine blk_alloc ?_ _)); refine blk_far ?_ NB129_131.out _; (with_reducible repeat (first | refine blk_drewN ?_ _ | refine blk_drew ?_ | refine blk_alloc ?_ _)); exact BK129.out) hb); have n1_ := Aside0.mk (blk_below (g := gb131) (o := .cells #[.int .i64 ((rd_T24 l0 x11_1).f0), .int .i64 ((rd_T24 l0 x11_1).f1)] 24 (0, 0)) (by (with_reducible repeat (first | refine blk_drewN ?_ _ | refine blk_drew ?_ | refine blk_alloc ?_ _)); refine blk_put (cs := #[.int .i64 ((rd_T24 l0 x11_1).f0), .int .i64 0]) ?_ 1 _ rfl; (with_reducible repeat (first | refine blk_drewN ?_ _ | refine blk_drew ?_ | refine blk_alloc ?_ _)); refine blk_put (cs := #[.int .i64 0, .int .i64 0]) ?_ 0 _ rfl; (with_reducible repeat (first | refine blk_drewN ?_ _ | refine blk_drew ?_ | refine blk_alloc ?_ _)); exact BK131.out) hb); have n2_ := Aside0.mk (below_step (by repeat (first | (with_reducible first | exact HB.out | apply below_alloc | apply pw_below_drewN | apply below_drew1 | refine below_set ?_ GE129.out | refine below_set ?_ GE131.out) | exact HB.out)) hb); have n3_ := Aside0.mk (hbox); have n4_ := Aside0.mk ((by rw [hg]; exact (below_size (by repeat (first | (with_reducible first | exact HB.out | apply below_alloc | apply pw_below_drewN | apply below_drew1 | refine below_set ?_ GE129.out | refine below_set ?_ GE131.out) | exact HB.out))) : w.heap.size ≤ gb133)); have n5_ := Aside0.mk ((by rw [hg]; exact (below_size (by repeat (first | (with_reducible first | exact HB.out | apply below_alloc | apply pw_below_drewN | apply below_drew1 | refine below_set ?_ GE129.out | refine below_set ?_ GE131.out) | exact HB.out))) : w.heap.size ≤ gb133)); have n6_ := Aside0.mk ((by rw [hg]; exact Nat.ne_of_lt (blk_lt (g := gb129) (o := .cells #[.int .i64 a1_0, .int .i64 a1_1] 24 (0, 0)) (by (with_reducible repeat (first | refine blk_drewN ?_ _ | refine blk_drew ?_ | refine blk_alloc ?_ _)); refine blk_far ?_ NB129_131.out _; (with_reducible repeat (first | refine blk_drewN ?_ _ | refine blk_drew ?_ | refine blk_alloc ?_ _)); refine blk_far ?_ NB129_131.out _; (with_reducible repeat (first | refine blk_drewN ?_ _ | refine blk_drew ?_ | refine blk_alloc ?_ _)); exact BK129.out)) : gb129 ≠ gb133)); have n7_ := Aside0.mk ((by rw [hg]; exact Nat.ne_of_gt (blk_lt (g := gb129) (o := .cells #[.int .i64 a1_0, .int .i64 a1_1] 24 (0, 0)) (by (with_reducible repeat (first | refine blk_drewN ?_ _ | refine blk_drew ?_ | refine blk_alloc ?_ _)); refine blk_far ?_ NB129_131.out _; (with_reducible repeat (first | refine blk_drewN ?_ _ | refine blk_drew ?_ | refine blk_alloc ?_ _)); refine blk_far ?_ NB129_131.out _; (with_reducible repeat (first | refine blk_drewN ?_ _ | refine blk_drew ?_ | refine blk_alloc ?_ _)); exact BK129.out)) : gb133 ≠ gb129)); have n8_ := Aside0.mk ((by rw [hg]; exact Nat.ne_of_lt (blk_lt (g := gb131) (o := .cells #[.int .i64 ((rd_T24 l0 x11_1).f0), .int .i64 ((rd_T24 l0 x11_1).f1)] 24 (0, 0)) (by (with_reducible repeat (first | refine blk_drewN ?_ _ | refine blk_drew ?_ | refine blk_alloc ?_ _)); refine blk_put (cs := #[.int .i64 ((rd_T24 l0 x11_1).f0), .int .i64 0]) ?_ 1 _ rfl; (with_reducible repeat (first | refine blk_drewN ?_ _ | refine blk_drew ?_ | refine blk_alloc ?_ _)); refine blk_put (cs := #[.int .i64 0, .int .i64 0]) ?_ 0 _ rfl; (with_reducible repeat (first | refine blk_drewN ?_ _ | refine blk_drew ?_ | refine blk_alloc ?_ _)); exact BK131.out)) : gb131 ≠ gb133)); have n9_ := Aside0.mk ((by rw [hg]; exact Nat.ne_of_gt (blk_lt (g := gb131) (o := .cells #[.int .i64 ((rd_T24 l0 x11_1).f0), .int .i64 ((rd_T24 l0 x11_1).f1)] 24 (0, 0)) (by (with_reducible repeat (first | refine blk_drewN ?_ _ | refine blk_drew ?_ | refine blk_alloc ?_ _)); refine blk_put (cs := #[.int .i64 ((rd_T24 l0 x11_1).f0), .int .i64 0]) ?_ 1 _ rfl; (with_reducible repeat (first | refine blk_drewN ?_ _ | refine blk_drew ?_ | refine blk_alloc ?_ _)); refine blk_put (cs := #[.int .i64 0, .int .i64 0]) ?_ 0 _ rfl; (with_reducible repeat (first | refine blk_drewN ?_ _ | refine blk_drew ?_ | refine blk_alloc ?_ _)); exact BK131.out)) : gb133 ≠ gb131)); clear BK129; clear BK131; clear HB; have BK129 := n0_; have BK131 := n1_; have HB := n2_; have BK133 := n3_; have GW133 := n4_; have GE133 := n5_; have NB129_133 := n6_; have NB133_129 := n7_; have NB131_133 := n8_; have NB133_131 := n9_; clear n0_ n1_ n2_ n3_ n4_ n5_ n6_ n7_ n8_ n9_; clear hb hbox hg; have hnb16 := NB133_129.out; have hnc16 := NB129_133.out; have hnb17 := NB133_131.out; have hnc17 := NB131_133.out; have hcz18_0 : w15.cell? ⟨gb133, 0, none⟩ = some (.int .i64 0) := (blk_cell BK133.out 0).trans rfl; have hcz18_1 : w15.cell? ⟨gb133, 1, none⟩ = some (.int .i64 0) := (blk_cell BK133.out 1).trans rfl; have hfz18_0 := blk_frozen BK133.out 0; have hfz18_1 := blk_frozen BK133.out 1))
                  (try simp only [Act.put, List.setIfInBounds_toArray, List.set_cons_zero, List.set_cons_succ])
                  go_cut [27] (fun v27 wc => ∃ (kq : Nat) (x27_10 : Bool), v27 = .bool x27_10 ∧ Aside0 (geom_Winds.j1 kq l0 x5_1 l0 (l0.length : Int) x11_1 x27_10 a1_0 a1_1 ((rd_T24 l0 x11_1).f0) ((rd_T24 l0 x11_1).f1) ((rd_T24 l0 (ji8)).f0) ((rd_T24 l0 (ji8)).f1) = some r) ∧ Aside0 (kq ≤ k1) ∧ Aside0 (wc.heap[gb129]? = some (.cells #[.int .i64 a1_0, .int .i64 a1_1] 24 (0, 0))) ∧ Aside0 (wc.heap[gb131]? = some (.cells #[.int .i64 ((rd_T24 l0 x11_1).f0), .int .i64 ((rd_T24 l0 x11_1).f1)] 24 (0, 0))) ∧ Aside0 (wc.heap[gb133]? = some (.cells #[.int .i64 ((rd_T24 l0 (ji8)).f0), .int .i64 ((rd_T24 l0 (ji8)).f1)] 24 (0, 0))) ∧ Aside0 (Below w.heap.size w wc))
                  case first =>
                    have H := HC11.out
                    clear HC11
                    by_cases c19 : ((rd_T24 l0 (ji8)).f1) ≤ a1_1
                    · rw [if_pos c19] at H
                      have c19b0 : decide (((rd_T24 l0 (ji8)).f1) ≤ a1_1) = true := decide_eq_true c19
                      clear c19
                      (first | rw [c19b0] | (simp only [i64_w, i32_w]; rw [c19b0]) | skip)
                      by_cases c20 : a1_1 < ((rd_T24 l0 x11_1).f1)
                      · rw [if_pos c20] at H
                        have c20b0 : decide (a1_1 < ((rd_T24 l0 x11_1).f1)) = true := decide_eq_true c20
                        clear c20
                        replace H := Option.bind_eq_some_iff.mp H
                        obtain ⟨t134, A210, H⟩ := H
                        replace H : (geom_Winds.j1 k1 l0 x5_1 l0 (l0.length : Int) x11_1 (decide (t134 > 0)) a1_0 a1_1 ((rd_T24 l0 x11_1).f0) ((rd_T24 l0 x11_1).f1) ((rd_T24 l0 (ji8)).f0) ((rd_T24 l0 (ji8)).f1)) = some r := H
                        have A21 := Aside0.mk A210
                        clear A210
                        have H' := Aside0.mk H
                        clear H
                        have hnb22 := NB133_129.out
                        have hnc22 := NB129_133.out
                        have hnb23 := NB133_131.out
                        have hnc23 := NB131_133.out
                        have hcz24_0 : w15.cell? ⟨gb133, 0, none⟩ = some (.int .i64 0) := (blk_cell BK133.out 0).trans rfl
                        have hcz24_1 : w15.cell? ⟨gb133, 1, none⟩ = some (.int .i64 0) := (blk_cell BK133.out 1).trans rfl
                        have hfz24_0 := blk_frozen BK133.out 0
                        have hfz24_1 := blk_frozen BK133.out 1
                        have hnb25 := NB129_131.out
                        have hnc25 := NB131_129.out
                        have hcz26_0 : w15.cell? ⟨gb129, 0, none⟩ = some (.int .i64 a1_0) := (blk_cell BK129.out 0).trans rfl
                        have hcz26_1 : w15.cell? ⟨gb129, 1, none⟩ = some (.int .i64 a1_1) := (blk_cell BK129.out 1).trans rfl
                        have hfz26_0 := blk_frozen BK129.out 0
                        have hfz26_1 := blk_frozen BK129.out 1
                        have hcz27_0 : w15.cell? ⟨gb131, 0, none⟩ = some (.int .i64 ((rd_T24 l0 x11_1).f0)) := (blk_cell BK131.out 0).trans rfl
                        have hcz27_1 : w15.cell? ⟨gb131, 1, none⟩ = some (.int .i64 ((rd_T24 l0 x11_1).f1)) := (blk_cell BK131.out 1).trans rfl
                        have hfz27_0 := blk_frozen BK131.out 0
                        have hfz27_1 := blk_frozen BK131.out 1
                        go_wp2_with (first | (go_at_call 17; (with_reducible refine (geom_Side.calls k1 ((rd_T24 l0 (ji8)).f0) ((rd_T24 l0 (ji8)).f1) ((rd_T24 l0 x11_1).f0) ((rd_T24 l0 x11_1).f1) a1_0 a1_1 t134 _ A21.out).mono ?_); rintro e w28 ⟨rfl, hb⟩; have n0_ := Aside0.mk (blk_below (g := gb129) (o := .cells #[.int .i64 a1_0, .int .i64 a1_1] 24 (0, 0)) (by (with_reducible repeat (first | refine blk_drewN ?_ _ | refine blk_drew ?_ | refine blk_alloc ?_ _)); refine blk_far ?_ NB129_133.out _; (with_reducible repeat (first | refine blk_drewN ?_ _ | refine blk_drew ?_ | refine blk_alloc ?_ _)); refine blk_far ?_ NB129_133.out _; (with_reducible repeat (first | refine blk_drewN ?_ _ | refine blk_drew ?_ | refine blk_alloc ?_ _)); exact BK129.out) hb); have n1_ := Aside0.mk (blk_below (g := gb131) (o := .cells #[.int .i64 ((rd_T24 l0 x11_1).f0), .int .i64 ((rd_T24 l0 x11_1).f1)] 24 (0, 0)) (by (with_reducible repeat (first | refine blk_drewN ?_ _ | refine blk_drew ?_ | refine blk_alloc ?_ _)); refine blk_far ?_ NB131_133.out _; (with_reducible repeat (first | refine blk_drewN ?_ _ | refine blk_drew ?_ | refine blk_alloc ?_ _)); refine blk_far ?_ NB131_133.out _; (with_reducible repeat (first | refine blk_drewN ?_ _ | refine blk_drew ?_ | refine blk_alloc ?_ _)); exact BK131.out) hb); have n2_ := Aside0.mk (blk_below (g := gb133) (o := .cells #[.int .i64 ((rd_T24 l0 (ji8)).f0), .int .i64 ((rd_T24 l0 (ji8)).f1)] 24 (0, 0)) (by (with_reducible repeat (first | refine blk_drewN ?_ _ | refine blk_drew ?_ | refine blk_alloc ?_ _)); refine blk_put (cs := #[.int .i64 ((rd_T24 l0 (ji8)).f0), .int .i64 0]) ?_ 1 _ rfl; (with_reducible repeat (first | refine blk_drewN ?_ _ | refine blk_drew ?_ | refine blk_alloc ?_ _)); refine blk_put (cs := #[.int .i64 0, .int .i64 0]) ?_ 0 _ rfl; (with_reducible repeat (first | refine blk_drewN ?_ _ | refine blk_drew ?_ | refine blk_alloc ?_ _)); exact BK133.out) hb); have n3_ := Aside0.mk (below_step (by repeat (first | (with_reducible first | exact HB.out | apply below_alloc | apply pw_below_drewN | apply below_drew1 | refine below_set ?_ GE129.out | refine below_set ?_ GE131.out | refine below_set ?_ GE133.out) | exact HB.out)) hb); clear BK129; clear BK131; clear BK133; clear HB; have BK129 := n0_; have BK131 := n1_; have BK133 := n2_; have HB := n3_; clear n0_ n1_ n2_ n3_; (try clear hb); (try clear hb2); (try clear hk); (try clear hi)))
                        go_meet
                        case rel => exact ⟨_, (decide (t134 > 0)), (by first | rfl | (simp; done) | (simp [*]; done)), H', ⟨by have := HK1.out; first | omega | exact Nat.le_refl _⟩, ⟨by (with_reducible repeat (first | refine blk_drewN ?_ _ | refine blk_drew ?_ | refine blk_alloc ?_ _)); exact BK129.out⟩, ⟨by (with_reducible repeat (first | refine blk_drewN ?_ _ | refine blk_drew ?_ | refine blk_alloc ?_ _)); exact BK131.out⟩, ⟨by (with_reducible repeat (first | refine blk_drewN ?_ _ | refine blk_drew ?_ | refine blk_alloc ?_ _)); exact BK133.out⟩, ⟨by repeat (first | (with_reducible first | exact HB.out | apply below_alloc | apply pw_below_drewN | apply below_drew1 | refine below_set ?_ GE129.out | refine below_set ?_ GE131.out | refine below_set ?_ GE133.out) | exact HB.out)⟩⟩
                      · rw [if_neg c20] at H
                        have c20b0 : decide (a1_1 < ((rd_T24 l0 x11_1).f1)) = false := decide_eq_false c20
                        clear c20
                        have H' := Aside0.mk H
                        clear H
                        have hnb29 := NB133_129.out
                        have hnc29 := NB129_133.out
                        have hnb30 := NB133_131.out
                        have hnc30 := NB131_133.out
                        have hcz31_0 : w15.cell? ⟨gb133, 0, none⟩ = some (.int .i64 0) := (blk_cell BK133.out 0).trans rfl
                        have hcz31_1 : w15.cell? ⟨gb133, 1, none⟩ = some (.int .i64 0) := (blk_cell BK133.out 1).trans rfl
                        have hfz31_0 := blk_frozen BK133.out 0
                        have hfz31_1 := blk_frozen BK133.out 1
                        have hnb32 := NB129_131.out
                        have hnc32 := NB131_129.out
                        have hcz33_0 : w15.cell? ⟨gb129, 0, none⟩ = some (.int .i64 a1_0) := (blk_cell BK129.out 0).trans rfl
                        have hcz33_1 : w15.cell? ⟨gb129, 1, none⟩ = some (.int .i64 a1_1) := (blk_cell BK129.out 1).trans rfl
                        have hfz33_0 := blk_frozen BK129.out 0
                        have hfz33_1 := blk_frozen BK129.out 1
                        have hcz34_0 : w15.cell? ⟨gb131, 0, none⟩ = some (.int .i64 ((rd_T24 l0 x11_1).f0)) := (blk_cell BK131.out 0).trans rfl
                        have hcz34_1 : w15.cell? ⟨gb131, 1, none⟩ = some (.int .i64 ((rd_T24 l0 x11_1).f1)) := (blk_cell BK131.out 1).trans rfl
                        have hfz34_0 := blk_frozen BK131.out 0
                        have hfz34_1 := blk_frozen BK131.out 1
                        go_wp2
                        go_meet
                        case rel => exact ⟨_, (false), (by first | rfl | (simp; done) | (simp [*]; done)), H', ⟨by have := HK1.out; first | omega | exact Nat.le_refl _⟩, ⟨by (with_reducible repeat (first | refine blk_drewN ?_ _ | refine blk_drew ?_ | refine blk_alloc ?_ _)); refine blk_far ?_ NB129_133.out _; (with_reducible repeat (first | refine blk_drewN ?_ _ | refine blk_drew ?_ | refine blk_alloc ?_ _)); refine blk_far ?_ NB129_133.out _; (with_reducible repeat (first | refine blk_drewN ?_ _ | refine blk_drew ?_ | refine blk_alloc ?_ _)); exact BK129.out⟩, ⟨by (with_reducible repeat (first | refine blk_drewN ?_ _ | refine blk_drew ?_ | refine blk_alloc ?_ _)); refine blk_far ?_ NB131_133.out _; (with_reducible repeat (first | refine blk_drewN ?_ _ | refine blk_drew ?_ | refine blk_alloc ?_ _)); refine blk_far ?_ NB131_133.out _; (with_reducible repeat (first | refine blk_drewN ?_ _ | refine blk_drew ?_ | refine blk_alloc ?_ _)); exact BK131.out⟩, ⟨by (with_reducible repeat (first | refine blk_drewN ?_ _ | refine blk_drew ?_ | refine blk_alloc ?_ _)); refine blk_put (cs := #[.int .i64 ((rd_T24 l0 (ji8)).f0), .int .i64 0]) ?_ 1 _ rfl; (with_reducible repeat (first | refine blk_drewN ?_ _ | refine blk_drew ?_ | refine blk_alloc ?_ _)); refine blk_put (cs := #[.int .i64 0, .int .i64 0]) ?_ 0 _ rfl; (with_reducible repeat (first | refine blk_drewN ?_ _ | refine blk_drew ?_ | refine blk_alloc ?_ _)); exact BK133.out⟩, ⟨by repeat (first | (with_reducible first | exact HB.out | apply below_alloc | apply pw_below_drewN | apply below_drew1 | refine below_set ?_ GE129.out | refine below_set ?_ GE131.out | refine below_set ?_ GE133.out) | exact HB.out)⟩⟩
                    · rw [if_neg c19] at H
                      have c19b0 : decide (((rd_T24 l0 (ji8)).f1) ≤ a1_1) = false := decide_eq_false c19
                      clear c19
                      (first | rw [c19b0] | (simp only [i64_w, i32_w]; rw [c19b0]) | skip)
                      have H' := Aside0.mk H
                      clear H
                      have hnb35 := NB133_129.out
                      have hnc35 := NB129_133.out
                      have hnb36 := NB133_131.out
                      have hnc36 := NB131_133.out
                      have hcz37_0 : w15.cell? ⟨gb133, 0, none⟩ = some (.int .i64 0) := (blk_cell BK133.out 0).trans rfl
                      have hcz37_1 : w15.cell? ⟨gb133, 1, none⟩ = some (.int .i64 0) := (blk_cell BK133.out 1).trans rfl
                      have hfz37_0 := blk_frozen BK133.out 0
                      have hfz37_1 := blk_frozen BK133.out 1
                      have hnb38 := NB129_131.out
                      have hnc38 := NB131_129.out
                      have hcz39_0 : w15.cell? ⟨gb129, 0, none⟩ = some (.int .i64 a1_0) := (blk_cell BK129.out 0).trans rfl
                      have hcz39_1 : w15.cell? ⟨gb129, 1, none⟩ = some (.int .i64 a1_1) := (blk_cell BK129.out 1).trans rfl
                      have hfz39_0 := blk_frozen BK129.out 0
                      have hfz39_1 := blk_frozen BK129.out 1
                      go_wp2
                      go_meet
                      case rel => exact ⟨_, (false), (by first | rfl | (simp; done) | (simp [*]; done)), H', ⟨by have := HK1.out; first | omega | exact Nat.le_refl _⟩, ⟨by (with_reducible repeat (first | refine blk_drewN ?_ _ | refine blk_drew ?_ | refine blk_alloc ?_ _)); refine blk_far ?_ NB129_133.out _; (with_reducible repeat (first | refine blk_drewN ?_ _ | refine blk_drew ?_ | refine blk_alloc ?_ _)); refine blk_far ?_ NB129_133.out _; (with_reducible repeat (first | refine blk_drewN ?_ _ | refine blk_drew ?_ | refine blk_alloc ?_ _)); exact BK129.out⟩, ⟨by (with_reducible repeat (first | refine blk_drewN ?_ _ | refine blk_drew ?_ | refine blk_alloc ?_ _)); refine blk_far ?_ NB131_133.out _; (with_reducible repeat (first | refine blk_drewN ?_ _ | refine blk_drew ?_ | refine blk_alloc ?_ _)); refine blk_far ?_ NB131_133.out _; (with_reducible repeat (first | refine blk_drewN ?_ _ | refine blk_drew ?_ | refine blk_alloc ?_ _)); exact BK131.out⟩, ⟨by (with_reducible repeat (first | refine blk_drewN ?_ _ | refine blk_drew ?_ | refine blk_alloc ?_ _)); refine blk_put (cs := #[.int .i64 ((rd_T24 l0 (ji8)).f0), .int .i64 0]) ?_ 1 _ rfl; (with_reducible repeat (first | refine blk_drewN ?_ _ | refine blk_drew ?_ | refine blk_alloc ?_ _)); refine blk_put (cs := #[.int .i64 0, .int .i64 0]) ?_ 0 _ rfl; (with_reducible repeat (first | refine blk_drewN ?_ _ | refine blk_drew ?_ | refine blk_alloc ?_ _)); exact BK133.out⟩, ⟨by repeat (first | (with_reducible first | exact HB.out | apply below_alloc | apply pw_below_drewN | apply below_drew1 | refine below_set ?_ GE129.out | refine below_set ?_ GE131.out | refine below_set ?_ GE133.out) | exact HB.out)⟩⟩
                  case rest =>
                    clear HC11
                    try clear c1
                    try clear p1
                    try clear q1
                    try clear hx1
                    try clear c2
                    try clear p2
                    try clear c3
                    try clear c4
                    try clear c4b0
                    try clear c5
                    try clear c5b0
                    try clear c6
                    try clear c6b0
                    try clear p6
                    try clear c7
                    try clear c7b0
                    try clear c7b1
                    try clear c7b2
                    try clear c9
                    try clear c9b0
                    try clear c10
                    try clear c10b0
                    try clear c12
                    try clear c13
                    try clear p13
                    try clear q13
                    try clear hx13
                    try clear c16
                    try clear c17
                    try clear c19
                    try clear c19b0
                    try clear c20
                    try clear c20b0
                    try clear c22
                    try clear c23
                    try clear c25
                    try clear c29
                    try clear c30
                    try clear c32
                    try clear c35
                    try clear c36
                    try clear c38
                    try clear hcz14_0
                    try clear hcz14_1
                    try clear hcz18_0
                    try clear hcz18_1
                    try clear hcz24_0
                    try clear hcz24_1
                    try clear hcz26_0
                    try clear hcz26_1
                    try clear hcz27_0
                    try clear hcz27_1
                    try clear hcz31_0
                    try clear hcz31_1
                    try clear hcz33_0
                    try clear hcz33_1
                    try clear hcz34_0
                    try clear hcz34_1
                    try clear hcz37_0
                    try clear hcz37_1
                    try clear hcz39_0
                    try clear hcz39_1
                    try clear hfz14_0
                    try clear hfz14_1
                    try clear hfz18_0
                    try clear hfz18_1
                    try clear hfz24_0
                    try clear hfz24_1
                    try clear hfz26_0
                    try clear hfz26_1
                    try clear hfz27_0
                    try clear hfz27_1
                    try clear hfz31_0
                    try clear hfz31_1
                    try clear hfz33_0
                    try clear hfz33_1
                    try clear hfz34_0
                    try clear hfz34_1
                    try clear hfz37_0
                    try clear hfz37_1
                    try clear hfz39_0
                    try clear hfz39_1
                    try clear hx130_0
                    try clear hx130_1
                    try clear hx132_0
                    try clear hx132_1
                    try clear p130
                    try clear p132
                    try clear p2
                    try clear q130
                    try clear q132
                    obtain ⟨kq, x27_10, rfl, HA, HJ10, BK129, BK131, BK133, HB⟩ := hcut
                    cases kq with
                    | zero => exact absurd HA.out (by simp [geom_Winds.j1])
                    | succ kj10 =>
                      have H := HA.out
                      clear HA
                      simp only [geom_Winds.j1] at H
                      by_cases c40 : x27_10 = true
                      · subst c40
                        have H1 : (geom_Winds.l0 kj10 l0 (wrap64 (x5_1 + 1)) l0 (l0.length : Int) (wrap64 (x11_1 + 1)) a1_0 a1_1) = some r := by rw [if_pos rfl] at H; exact H
                        clear H
                        have H := H1
                        clear H1
                        have H' := Aside0.mk H
                        clear H
                        go_wp2
                        go_roundg kj10
                        case measure => have := HK1.out; have := HJ10.out; omega
                        case rel => exact ⟨(wrap64 (x5_1 + 1)), (wrap64 (x11_1 + 1)), (by first | rfl | (simp; done) | (simp [*]; done)), (by first | rfl | (simp; done) | (simp [*]; done)), H', ⟨by have := HK1.out; have := HJ10.out; omega⟩, ⟨by (with_reducible repeat (first | refine blk_drewN ?_ _ | refine blk_drew ?_ | refine blk_alloc ?_ _)); exact BK129.out⟩, ⟨by repeat (first | (with_reducible first | exact HB.out | apply below_alloc | apply pw_below_drewN | apply below_drew1 | refine below_set ?_ GE129.out | refine below_set ?_ GE131.out | refine below_set ?_ GE133.out) | exact HB.out)⟩⟩
                      · replace c40 := Bool.eq_false_iff.mpr c40
                        subst c40
                        have H1 : (if ((rd_T24 l0 x11_1).f1) ≤ a1_1 then (if a1_1 < ((rd_T24 l0 (ji8)).f1) then ((geom_Side.f kj10 ((rd_T24 l0 (ji8)).f0) ((rd_T24 l0 (ji8)).f1) ((rd_T24 l0 x11_1).f0) ((rd_T24 l0 x11_1).f1) a1_0 a1_1).bind fun t135 => (if t135 < 0 then (geom_Winds.l0 kj10 l0 (wrap64 (x5_1 - 1)) l0 (l0.length : Int) (wrap64 (x11_1 + 1)) a1_0 a1_1) else (geom_Winds.l0 kj10 l0 x5_1 l0 (l0.length : Int) (wrap64 (x11_1 + 1)) a1_0 a1_1))) else (geom_Winds.l0 kj10 l0 x5_1 l0 (l0.length : Int) (wrap64 (x11_1 + 1)) a1_0 a1_1)) else (geom_Winds.l0 kj10 l0 x5_1 l0 (l0.length : Int) (wrap64 (x11_1 + 1)) a1_0 a1_1)) = some r := by rw [if_neg (show ¬ (false = true) by decide)] at H; exact H
                        clear H
                        have H := H1
                        clear H1
                        by_cases c41 : ((rd_T24 l0 x11_1).f1) ≤ a1_1
                        · rw [if_pos c41] at H
                          have c41b0 : decide (((rd_T24 l0 x11_1).f1) ≤ a1_1) = true := decide_eq_true c41
                          clear c41
                          by_cases c42 : a1_1 < ((rd_T24 l0 (ji8)).f1)
                          · rw [if_pos c42] at H
                            have c42b0 : decide (a1_1 < ((rd_T24 l0 (ji8)).f1)) = true := decide_eq_true c42
                            clear c42
                            replace H := Option.bind_eq_some_iff.mp H
                            obtain ⟨t135, A430, H⟩ := H
                            replace H : (if t135 < 0 then (geom_Winds.l0 kj10 l0 (wrap64 (x5_1 - 1)) l0 (l0.length : Int) (wrap64 (x11_1 + 1)) a1_0 a1_1) else (geom_Winds.l0 kj10 l0 x5_1 l0 (l0.length : Int) (wrap64 (x11_1 + 1)) a1_0 a1_1)) = some r := H
                            have A43 := Aside0.mk A430
                            clear A430
                            by_cases c44 : t135 < 0
                            · rw [if_pos c44] at H
                              have c44b0 : decide (t135 < 0) = true := decide_eq_true c44
                              clear c44
                              have H' := Aside0.mk H
                              clear H
                              have hnb45 := NB131_129.out
                              have hnc45 := NB129_131.out
                              have hnb46 := NB131_133.out
                              have hnc46 := NB133_131.out
                              have hcz47_0 : wc.cell? ⟨gb131, 0, none⟩ = some (.int .i64 ((rd_T24 l0 x11_1).f0)) := (blk_cell BK131.out 0).trans rfl
                              have hcz47_1 : wc.cell? ⟨gb131, 1, none⟩ = some (.int .i64 ((rd_T24 l0 x11_1).f1)) := (blk_cell BK131.out 1).trans rfl
                              have hfz47_0 := blk_frozen BK131.out 0
                              have hfz47_1 := blk_frozen BK131.out 1
                              have hnb48 := NB129_133.out
                              have hnc48 := NB133_129.out
                              have hcz49_0 : wc.cell? ⟨gb129, 0, none⟩ = some (.int .i64 a1_0) := (blk_cell BK129.out 0).trans rfl
                              have hcz49_1 : wc.cell? ⟨gb129, 1, none⟩ = some (.int .i64 a1_1) := (blk_cell BK129.out 1).trans rfl
                              have hfz49_0 := blk_frozen BK129.out 0
                              have hfz49_1 := blk_frozen BK129.out 1
                              have hcz50_0 : wc.cell? ⟨gb133, 0, none⟩ = some (.int .i64 ((rd_T24 l0 (ji8)).f0)) := (blk_cell BK133.out 0).trans rfl
                              have hcz50_1 : wc.cell? ⟨gb133, 1, none⟩ = some (.int .i64 ((rd_T24 l0 (ji8)).f1)) := (blk_cell BK133.out 1).trans rfl
                              have hfz50_0 := blk_frozen BK133.out 0
                              have hfz50_1 := blk_frozen BK133.out 1
                              go_wp2_with (first | (go_at_call 17; (with_reducible refine (geom_Side.calls kj10 ((rd_T24 l0 (ji8)).f0) ((rd_T24 l0 (ji8)).f1) ((rd_T24 l0 x11_1).f0) ((rd_T24 l0 x11_1).f1) a1_0 a1_1 t135 _ A43.out).mono ?_); rintro e w51 ⟨rfl, hb⟩; have n0_ := Aside0.mk (blk_below (g := gb129) (o := .cells #[.int .i64 a1_0, .int .i64 a1_1] 24 (0, 0)) (by (with_reducible repeat (first | refine blk_drewN ?_ _ | refine blk_drew ?_ | refine blk_alloc ?_ _)); exact BK129.out) hb); have n1_ := Aside0.mk (blk_below (g := gb131) (o := .cells #[.int .i64 ((rd_T24 l0 x11_1).f0), .int .i64 ((rd_T24 l0 x11_1).f1)] 24 (0, 0)) (by (with_reducible repeat (first | refine blk_drewN ?_ _ | refine blk_drew ?_ | refine blk_alloc ?_ _)); exact BK131.out) hb); have n2_ := Aside0.mk (blk_below (g := gb133) (o := .cells #[.int .i64 ((rd_T24 l0 (ji8)).f0), .int .i64 ((rd_T24 l0 (ji8)).f1)] 24 (0, 0)) (by (with_reducible repeat (first | refine blk_drewN ?_ _ | refine blk_drew ?_ | refine blk_alloc ?_ _)); exact BK133.out) hb); have n3_ := Aside0.mk (below_step (by repeat (first | (with_reducible first | exact HB.out | apply below_alloc | apply pw_below_drewN | apply below_drew1 | refine below_set ?_ GE129.out | refine below_set ?_ GE131.out | refine below_set ?_ GE133.out) | exact HB.out)) hb); clear BK129; clear BK131; clear BK133; clear HB; have BK129 := n0_; have BK131 := n1_; have BK133 := n2_; have HB := n3_; clear n0_ n1_ n2_ n3_; (try clear hb); (try clear hb2); (try clear hk); (try clear hi)))
                              go_roundg kj10
                              case measure => have := HK1.out; have := HJ10.out; omega
                              case rel => exact ⟨(wrap64 (x5_1 - 1)), (wrap64 (x11_1 + 1)), (by first | rfl | (simp; done) | (simp [*]; done)), (by first | rfl | (simp; done) | (simp [*]; done)), H', ⟨by have := HK1.out; have := HJ10.out; omega⟩, ⟨by (with_reducible repeat (first | refine blk_drewN ?_ _ | refine blk_drew ?_ | refine blk_alloc ?_ _)); exact BK129.out⟩, ⟨by repeat (first | (with_reducible first | exact HB.out | apply below_alloc | apply pw_below_drewN | apply below_drew1 | refine below_set ?_ GE129.out | refine below_set ?_ GE131.out | refine below_set ?_ GE133.out) | exact HB.out)⟩⟩
                            · rw [if_neg c44] at H
                              have c44b0 : decide (t135 < 0) = false := decide_eq_false c44
                              clear c44
                              have H' := Aside0.mk H
                              clear H
                              have hnb52 := NB131_129.out
                              have hnc52 := NB129_131.out
                              have hnb53 := NB131_133.out
                              have hnc53 := NB133_131.out
                              have hcz54_0 : wc.cell? ⟨gb131, 0, none⟩ = some (.int .i64 ((rd_T24 l0 x11_1).f0)) := (blk_cell BK131.out 0).trans rfl
                              have hcz54_1 : wc.cell? ⟨gb131, 1, none⟩ = some (.int .i64 ((rd_T24 l0 x11_1).f1)) := (blk_cell BK131.out 1).trans rfl
                              have hfz54_0 := blk_frozen BK131.out 0
                              have hfz54_1 := blk_frozen BK131.out 1
                              have hnb55 := NB129_133.out
                              have hnc55 := NB133_129.out
                              have hcz56_0 : wc.cell? ⟨gb129, 0, none⟩ = some (.int .i64 a1_0) := (blk_cell BK129.out 0).trans rfl
                              have hcz56_1 : wc.cell? ⟨gb129, 1, none⟩ = some (.int .i64 a1_1) := (blk_cell BK129.out 1).trans rfl
                              have hfz56_0 := blk_frozen BK129.out 0
                              have hfz56_1 := blk_frozen BK129.out 1
                              have hcz57_0 : wc.cell? ⟨gb133, 0, none⟩ = some (.int .i64 ((rd_T24 l0 (ji8)).f0)) := (blk_cell BK133.out 0).trans rfl
                              have hcz57_1 : wc.cell? ⟨gb133, 1, none⟩ = some (.int .i64 ((rd_T24 l0 (ji8)).f1)) := (blk_cell BK133.out 1).trans rfl
                              have hfz57_0 := blk_frozen BK133.out 0
                              have hfz57_1 := blk_frozen BK133.out 1
                              go_wp2_with (first | (go_at_call 17; (with_reducible refine (geom_Side.calls kj10 ((rd_T24 l0 (ji8)).f0) ((rd_T24 l0 (ji8)).f1) ((rd_T24 l0 x11_1).f0) ((rd_T24 l0 x11_1).f1) a1_0 a1_1 t135 _ A43.out).mono ?_); rintro e w58 ⟨rfl, hb⟩; have n0_ := Aside0.mk (blk_below (g := gb129) (o := .cells #[.int .i64 a1_0, .int .i64 a1_1] 24 (0, 0)) (by (with_reducible repeat (first | refine blk_drewN ?_ _ | refine blk_drew ?_ | refine blk_alloc ?_ _)); exact BK129.out) hb); have n1_ := Aside0.mk (blk_below (g := gb131) (o := .cells #[.int .i64 ((rd_T24 l0 x11_1).f0), .int .i64 ((rd_T24 l0 x11_1).f1)] 24 (0, 0)) (by (with_reducible repeat (first | refine blk_drewN ?_ _ | refine blk_drew ?_ | refine blk_alloc ?_ _)); exact BK131.out) hb); have n2_ := Aside0.mk (blk_below (g := gb133) (o := .cells #[.int .i64 ((rd_T24 l0 (ji8)).f0), .int .i64 ((rd_T24 l0 (ji8)).f1)] 24 (0, 0)) (by (with_reducible repeat (first | refine blk_drewN ?_ _ | refine blk_drew ?_ | refine blk_alloc ?_ _)); exact BK133.out) hb); have n3_ := Aside0.mk (below_step (by repeat (first | (with_reducible first | exact HB.out | apply below_alloc | apply pw_below_drewN | apply below_drew1 | refine below_set ?_ GE129.out | refine below_set ?_ GE131.out | refine below_set ?_ GE133.out) | exact HB.out)) hb); clear BK129; clear BK131; clear BK133; clear HB; have BK129 := n0_; have BK131 := n1_; have BK133 := n2_; have HB := n3_; clear n0_ n1_ n2_ n3_; (try clear hb); (try clear hb2); (try clear hk); (try clear hi)))
                              go_roundg kj10
                              case measure => have := HK1.out; have := HJ10.out; omega
                              case rel => exact ⟨(x5_1), (wrap64 (x11_1 + 1)), (by first | rfl | (simp; done) | (simp [*]; done)), (by first | rfl | (simp; done) | (simp [*]; done)), H', ⟨by have := HK1.out; have := HJ10.out; omega⟩, ⟨by (with_reducible repeat (first | refine blk_drewN ?_ _ | refine blk_drew ?_ | refine blk_alloc ?_ _)); exact BK129.out⟩, ⟨by repeat (first | (with_reducible first | exact HB.out | apply below_alloc | apply pw_below_drewN | apply below_drew1 | refine below_set ?_ GE129.out | refine below_set ?_ GE131.out | refine below_set ?_ GE133.out) | exact HB.out)⟩⟩
                          · rw [if_neg c42] at H
                            have c42b0 : decide (a1_1 < ((rd_T24 l0 (ji8)).f1)) = false := decide_eq_false c42
                            clear c42
                            have H' := Aside0.mk H
                            clear H
                            have hnb59 := NB131_129.out
                            have hnc59 := NB129_131.out
                            have hnb60 := NB131_133.out
                            have hnc60 := NB133_131.out
                            have hcz61_0 : wc.cell? ⟨gb131, 0, none⟩ = some (.int .i64 ((rd_T24 l0 x11_1).f0)) := (blk_cell BK131.out 0).trans rfl
                            have hcz61_1 : wc.cell? ⟨gb131, 1, none⟩ = some (.int .i64 ((rd_T24 l0 x11_1).f1)) := (blk_cell BK131.out 1).trans rfl
                            have hfz61_0 := blk_frozen BK131.out 0
                            have hfz61_1 := blk_frozen BK131.out 1
                            have hnb62 := NB129_133.out
                            have hnc62 := NB133_129.out
                            have hcz63_0 : wc.cell? ⟨gb129, 0, none⟩ = some (.int .i64 a1_0) := (blk_cell BK129.out 0).trans rfl
                            have hcz63_1 : wc.cell? ⟨gb129, 1, none⟩ = some (.int .i64 a1_1) := (blk_cell BK129.out 1).trans rfl
                            have hfz63_0 := blk_frozen BK129.out 0
                            have hfz63_1 := blk_frozen BK129.out 1
                            have hcz64_0 : wc.cell? ⟨gb133, 0, none⟩ = some (.int .i64 ((rd_T24 l0 (ji8)).f0)) := (blk_cell BK133.out 0).trans rfl
                            have hcz64_1 : wc.cell? ⟨gb133, 1, none⟩ = some (.int .i64 ((rd_T24 l0 (ji8)).f1)) := (blk_cell BK133.out 1).trans rfl
                            have hfz64_0 := blk_frozen BK133.out 0
                            have hfz64_1 := blk_frozen BK133.out 1
                            go_wp2
                            go_roundg kj10
                            case measure => have := HK1.out; have := HJ10.out; omega
                            case rel => exact ⟨(x5_1), (wrap64 (x11_1 + 1)), (by first | rfl | (simp; done) | (simp [*]; done)), (by first | rfl | (simp; done) | (simp [*]; done)), H', ⟨by have := HK1.out; have := HJ10.out; omega⟩, ⟨by (with_reducible repeat (first | refine blk_drewN ?_ _ | refine blk_drew ?_ | refine blk_alloc ?_ _)); exact BK129.out⟩, ⟨by repeat (first | (with_reducible first | exact HB.out | apply below_alloc | apply pw_below_drewN | apply below_drew1 | refine below_set ?_ GE129.out | refine below_set ?_ GE131.out | refine below_set ?_ GE133.out) | exact HB.out)⟩⟩
                        · rw [if_neg c41] at H
                          have c41b0 : decide (((rd_T24 l0 x11_1).f1) ≤ a1_1) = false := decide_eq_false c41
                          clear c41
                          have H' := Aside0.mk H
                          clear H
                          have hnb65 := NB131_129.out
                          have hnc65 := NB129_131.out
                          have hnb66 := NB131_133.out
                          have hnc66 := NB133_131.out
                          have hcz67_0 : wc.cell? ⟨gb131, 0, none⟩ = some (.int .i64 ((rd_T24 l0 x11_1).f0)) := (blk_cell BK131.out 0).trans rfl
                          have hcz67_1 : wc.cell? ⟨gb131, 1, none⟩ = some (.int .i64 ((rd_T24 l0 x11_1).f1)) := (blk_cell BK131.out 1).trans rfl
                          have hfz67_0 := blk_frozen BK131.out 0
                          have hfz67_1 := blk_frozen BK131.out 1
                          have hnb68 := NB129_133.out
                          have hnc68 := NB133_129.out
                          have hcz69_0 : wc.cell? ⟨gb129, 0, none⟩ = some (.int .i64 a1_0) := (blk_cell BK129.out 0).trans rfl
                          have hcz69_1 : wc.cell? ⟨gb129, 1, none⟩ = some (.int .i64 a1_1) := (blk_cell BK129.out 1).trans rfl
                          have hfz69_0 := blk_frozen BK129.out 0
                          have hfz69_1 := blk_frozen BK129.out 1
                          go_wp2
                          go_roundg kj10
                          case measure => have := HK1.out; have := HJ10.out; omega
                          case rel => exact ⟨(x5_1), (wrap64 (x11_1 + 1)), (by first | rfl | (simp; done) | (simp [*]; done)), (by first | rfl | (simp; done) | (simp [*]; done)), H', ⟨by have := HK1.out; have := HJ10.out; omega⟩, ⟨by (with_reducible repeat (first | refine blk_drewN ?_ _ | refine blk_drew ?_ | refine blk_alloc ?_ _)); exact BK129.out⟩, ⟨by repeat (first | (with_reducible first | exact HB.out | apply below_alloc | apply pw_below_drewN | apply below_drew1 | refine below_set ?_ GE129.out | refine below_set ?_ GE131.out | refine below_set ?_ GE133.out) | exact HB.out)⟩⟩
                · rw [if_neg c10] at H
                  exact absurd H (by simp)
              · rw [if_neg c9] at H
                exact absurd H (by simp)
          · rw [if_neg c6] at H
            exact absurd H (by simp)
        · rw [if_neg c5] at H
          exact absurd H (by simp)
      · rw [if_neg c4] at H
        have c4b0 : decide (x11_1 < (l0.length : Int)) = false := decide_eq_false c4
        clear c4
        obtain rfl := Option.some.inj H
        go_wp2
        go_ret
        exact ⟨by first | rfl | (simp [errW_none, errW_some] <;> rfl) | (simp [*, errW_none, errW_some] <;> rfl), by repeat (first | (with_reducible first | exact HB.out | apply below_alloc | apply pw_below_drewN | apply below_drew1 | refine below_set ?_ GE129.out) | exact HB.out)⟩

end Go.Proofs.Ytfhjndnempmcaaa.X
