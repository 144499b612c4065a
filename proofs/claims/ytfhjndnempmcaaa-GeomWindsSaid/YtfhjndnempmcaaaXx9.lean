-- Made by xprint.py (this session's own driver of the kit's print) out of the translation; Lean checks it.
import Derived.Test.YtfhjndnempmcaaaXx0
import Derived.Test.YtfhjndnempmcaaaXx8
namespace Go.Proofs.Ytfhjndnempmcaaa.X
open Go.Proofs.Ytfhjndnempmcaaa
open Go.RowKit Go.Proofs.YtfhjndnempmcaaaW.PrintWords Go.Proofs.YtfhjndnempmcaaaW.PrintLast Go.Proofs.YtfhjndnempmcaaaW.PrintMore
attribute [local go_sem] max2_int min2_int max_two min_two max_three min_three max_four min_four   -- for this text's walks alone
set_option linter.unusedVariables false
set_option linter.unusedSimpArgs false

/-! ### limnerref03_Winds: function 13 -/
mutual
def limnerref03_Winds.l0 : Nat → List (S28) → Int → Int → Int → Int → Option (Int)
  | 0, _, _, _, _, _ => none
  | k + 1, x0, x5, x6, x195000, x195001 => if x6 < (x0.length : Int) then (if 0 ≤ x6 then (if 0 < (x0.length : Int) then (if (wrap64 (x6 + 1)) < (x0.length : Int) then (if 0 ≤ (wrap64 (x6 + 1)) then (limnerref03_Winds.j1 k x0 x5 x6 x195000 x195001 ((rd_T28 x0 x6).f0) ((rd_T28 x0 x6).f1) ((rd_T28 x0 (wrap64 (x6 + 1))).f0) ((rd_T28 x0 (wrap64 (x6 + 1))).f1)) else (none)) else (limnerref03_Winds.j1 k x0 x5 x6 x195000 x195001 ((rd_T28 x0 x6).f0) ((rd_T28 x0 x6).f1) ((rd_T28 x0 0).f0) ((rd_T28 x0 0).f1))) else (none)) else (none)) else (some x5)
def limnerref03_Winds.j1 : Nat → List (S28) → Int → Int → Int → Int → Int → Int → Int → Int → Option (Int)
  | 0, _, _, _, _, _, _, _, _, _ => none
  | k + 1, x0, x5, x6, x195000, x195001, x198000, x198001, x199000, x199001 => if x198001 ≤ x195001 then (if x195001 < x199001 then ((limnerref03_Side.f k x198000 x198001 x199000 x199001 x195000 x195001).bind fun t200 => (limnerref03_Winds.j2 k x0 x5 x6 (decide (t200 > 0)) x195000 x195001 x198000 x198001 x199000 x199001)) else (limnerref03_Winds.j2 k x0 x5 x6 false x195000 x195001 x198000 x198001 x199000 x199001)) else (limnerref03_Winds.j2 k x0 x5 x6 false x195000 x195001 x198000 x198001 x199000 x199001)
def limnerref03_Winds.j2 : Nat → List (S28) → Int → Int → Bool → Int → Int → Int → Int → Int → Int → Option (Int)
  | 0, _, _, _, _, _, _, _, _, _, _ => none
  | k + 1, x0, x5, x6, x50, x195000, x195001, x198000, x198001, x199000, x199001 => if x50 = true then (if x199001 ≤ x195001 then (if x195001 < x198001 then ((limnerref03_Side.f k x198000 x198001 x199000 x199001 x195000 x195001).bind fun t201 => (if t201 < 0 then (limnerref03_Winds.l0 k x0 (wrap64 ((wrap64 (x5 + 1)) - 1)) (wrap64 (x6 + 1)) x195000 x195001) else (limnerref03_Winds.l0 k x0 (wrap64 (x5 + 1)) (wrap64 (x6 + 1)) x195000 x195001))) else (limnerref03_Winds.l0 k x0 (wrap64 (x5 + 1)) (wrap64 (x6 + 1)) x195000 x195001)) else (limnerref03_Winds.l0 k x0 (wrap64 (x5 + 1)) (wrap64 (x6 + 1)) x195000 x195001)) else (if x199001 ≤ x195001 then (if x195001 < x198001 then ((limnerref03_Side.f k x198000 x198001 x199000 x199001 x195000 x195001).bind fun t202 => (if t202 < 0 then (limnerref03_Winds.l0 k x0 (wrap64 (x5 - 1)) (wrap64 (x6 + 1)) x195000 x195001) else (limnerref03_Winds.l0 k x0 x5 (wrap64 (x6 + 1)) x195000 x195001))) else (limnerref03_Winds.l0 k x0 x5 (wrap64 (x6 + 1)) x195000 x195001)) else (limnerref03_Winds.l0 k x0 x5 (wrap64 (x6 + 1)) x195000 x195001))
end
def limnerref03_Winds.f (k : Nat) (l0 : List (S28)) (a1_0 : Int) (a1_1 : Int) : Option (Int) := limnerref03_Winds.l0 k l0 0 0 a1_0 a1_1
theorem limnerref03_Winds.mono_l : ∀ k, (∀ y0 y1 y2 y3 y4, LeO (limnerref03_Winds.l0 k y0 y1 y2 y3 y4) (limnerref03_Winds.l0 (k + 1) y0 y1 y2 y3 y4)) ∧ (∀ y0 y1 y2 y3 y4 y5 y6 y7 y8, LeO (limnerref03_Winds.j1 k y0 y1 y2 y3 y4 y5 y6 y7 y8) (limnerref03_Winds.j1 (k + 1) y0 y1 y2 y3 y4 y5 y6 y7 y8)) ∧ (∀ y0 y1 y2 y3 y4 y5 y6 y7 y8 y9, LeO (limnerref03_Winds.j2 k y0 y1 y2 y3 y4 y5 y6 y7 y8 y9) (limnerref03_Winds.j2 (k + 1) y0 y1 y2 y3 y4 y5 y6 y7 y8 y9))
  | 0 => ⟨fun _ _ _ _ _ r h => by simp [limnerref03_Winds.l0] at h, fun _ _ _ _ _ _ _ _ _ r h => by simp [limnerref03_Winds.j1] at h, fun _ _ _ _ _ _ _ _ _ _ r h => by simp [limnerref03_Winds.j2] at h⟩
  | k + 1 => by
    obtain ⟨ih0, ih1, ih2⟩ := limnerref03_Winds.mono_l k
    refine ⟨?_, ?_, ?_⟩
    · intro y0 y1 y2 y3 y4
      unfold limnerref03_Winds.l0
      repeat' first
      | (with_reducible exact ih0 _ _ _ _ _)
      | (with_reducible exact ih1 _ _ _ _ _ _ _ _ _)
      | (with_reducible exact ih2 _ _ _ _ _ _ _ _ _ _)
      | (with_reducible exact limnerref03_Side.mono _ _ _ _ _ _ _)
      | (with_reducible exact LeO.refl _)
      | (with_reducible exact LeO.none _)
      | (with_reducible refine LeO.ite ?_ ?_)
      | (with_reducible refine LeO.bind ?_ (fun _ => ?_))
      | exact ih0 _ _ _ _ _
      | exact ih1 _ _ _ _ _ _ _ _ _
      | exact ih2 _ _ _ _ _ _ _ _ _ _
      | exact limnerref03_Side.mono _ _ _ _ _ _ _
      | exact LeO.none _
      | refine LeO.ite ?_ ?_
      | refine LeO.bind ?_ (fun _ => ?_)
    · intro y0 y1 y2 y3 y4 y5 y6 y7 y8
      unfold limnerref03_Winds.j1
      repeat' first
      | (with_reducible exact ih0 _ _ _ _ _)
      | (with_reducible exact ih1 _ _ _ _ _ _ _ _ _)
      | (with_reducible exact ih2 _ _ _ _ _ _ _ _ _ _)
      | (with_reducible exact limnerref03_Side.mono _ _ _ _ _ _ _)
      | (with_reducible exact LeO.refl _)
      | (with_reducible exact LeO.none _)
      | (with_reducible refine LeO.ite ?_ ?_)
      | (with_reducible refine LeO.bind ?_ (fun _ => ?_))
      | exact ih0 _ _ _ _ _
      | exact ih1 _ _ _ _ _ _ _ _ _
      | exact ih2 _ _ _ _ _ _ _ _ _ _
      | exact limnerref03_Side.mono _ _ _ _ _ _ _
      | exact LeO.none _
      | refine LeO.ite ?_ ?_
      | refine LeO.bind ?_ (fun _ => ?_)
    · intro y0 y1 y2 y3 y4 y5 y6 y7 y8 y9
      unfold limnerref03_Winds.j2
      repeat' first
      | (with_reducible exact ih0 _ _ _ _ _)
      | (with_reducible exact ih1 _ _ _ _ _ _ _ _ _)
      | (with_reducible exact ih2 _ _ _ _ _ _ _ _ _ _)
      | (with_reducible exact limnerref03_Side.mono _ _ _ _ _ _ _)
      | (with_reducible exact LeO.refl _)
      | (with_reducible exact LeO.none _)
      | (with_reducible refine LeO.ite ?_ ?_)
      | (with_reducible refine LeO.bind ?_ (fun _ => ?_))
      | exact ih0 _ _ _ _ _
      | exact ih1 _ _ _ _ _ _ _ _ _
      | exact ih2 _ _ _ _ _ _ _ _ _ _
      | exact limnerref03_Side.mono _ _ _ _ _ _ _
      | exact LeO.none _
      | refine LeO.ite ?_ ?_
      | refine LeO.bind ?_ (fun _ => ?_)
theorem limnerref03_Winds.mono : ∀ a0 a1 a2 k, LeO (limnerref03_Winds.f k a0 a1 a2) (limnerref03_Winds.f (k + 1) a0 a1 a2) := by
  intro a0 a1 a2 k
  obtain ⟨ih0, ih1, ih2⟩ := limnerref03_Winds.mono_l k
  unfold limnerref03_Winds.f
  repeat' first
      | (with_reducible exact ih0 _ _ _ _ _)
      | (with_reducible exact ih1 _ _ _ _ _ _ _ _ _)
      | (with_reducible exact ih2 _ _ _ _ _ _ _ _ _ _)
      | (with_reducible exact limnerref03_Side.mono _ _ _ _ _ _ _)
      | (with_reducible exact LeO.refl _)
      | (with_reducible exact LeO.none _)
      | (with_reducible refine LeO.ite ?_ ?_)
      | (with_reducible refine LeO.bind ?_ (fun _ => ?_))
      | exact ih0 _ _ _ _ _
      | exact ih1 _ _ _ _ _ _ _ _ _
      | exact ih2 _ _ _ _ _ _ _ _ _ _
      | exact limnerref03_Side.mono _ _ _ _ _ _ _
      | exact LeO.none _
      | refine LeO.ite ?_ ?_
      | refine LeO.bind ?_ (fun _ => ?_)
def limnerref03_Winds.T5 : Bool × List (List Nat × List Nat) := (true, [([], []), ([], []), ([0, 1], [0, 1]), ([2], [2]), ([], []), ([4], [4]), ([5], [5]), ([], []), ([], []), ([7, 3, 0, 1, 2, 3, 7, 8], [3, 7]), ([8, 6, 9, 0, 1, 2, 3, 4, 5, 6, 7, 8, 9], [6, 8])])
def limnerref03_Winds.B5 : List Nat := [0, 0, 3, 7, 0, 16, 48, 0, 0, 399, 1023]
theorem limnerref03_Winds.tab5 : rtab .any (opsOf Try.f13 5) = limnerref03_Winds.T5 := by kernel_rfl
theorem limnerref03_Winds.bits5 : waitsOk limnerref03_Winds.T5.2 limnerref03_Winds.B5 = true := by kernel_rfl
set_option maxHeartbeats 8000000 in
set_option maxRecDepth 100000 in
theorem limnerref03_Winds.calls (k : Nat) (A0 : Option Addr) (c0 : Nat) (l0 : List (S28)) (a1_0 : Int) (a1_1 : Int) (r : Int) (w : World) (hr0 : Kd.C k28 w A0 l0.length l0) (hc0 : l0.length ≤ c0) (h : limnerref03_Winds.f k l0 a1_0 a1_1 = some r) :
    Calls Try.prog 13 #[.slice A0 l0.length c0, .agg #[.int .i64 a1_0, .int .i64 a1_1]] w fun e w' => e = .returned (.int .i64 r) ∧ Below w.heap.size w w' := by
  have hu28 := Try.underlying28
  have HR0 := Aside0.mk hr0
  have HC0 := Aside0.mk hc0
  clear hr0 hc0
  have HB := Aside0.mk (Below.refl w.heap.size w)
  have H : (limnerref03_Winds.l0 k l0 0 0 a1_0 a1_1) = some r := h
  clear h
  have H' := Aside0.mk H
  clear H
  go_enter Try.func13, Try.ntmps13
  go_wp2_with (first | ((with_reducible refine gate_dst (N := 3) rfl ?_); refine box_event ?hg (N := 3) ?hd (cs := #[.int .i64 a1_0, .int .i64 a1_1]) (t := 28) ?hr ?_; (case hd => rfl); (case hg => rfl); (case hr => first | (go_simp; done) | (go_simp; rfl)); intro gb194 hg w3 hbox hb; have n0_ := Aside0.mk (below_step (by repeat (first | (with_reducible first | exact HB.out | apply below_alloc | apply pw_below_drewN | apply below_drew1) | exact HB.out)) hb); have n1_ := Aside0.mk (hbox); have n2_ := Aside0.mk ((by rw [hg]; exact (below_size (by repeat (first | (with_reducible first | exact HB.out | apply below_alloc | apply pw_below_drewN | apply below_drew1) | exact HB.out))) : w.heap.size ≤ gb194)); have n3_ := Aside0.mk ((by rw [hg]; exact (below_size (by repeat (first | (with_reducible first | exact HB.out | apply below_alloc | apply pw_below_drewN | apply below_drew1) | exact HB.out))) : w.heap.size ≤ gb194)); clear HB; have HB := n0_; have BK194 := n1_; have GW194 := n2_; have GE194 := n3_; clear n0_ n1_ n2_ n3_; clear hb hbox hg))
  go_loopg [5, 6] k (fun kq v5 v6 w' => ∃ (x5_1 : Int) (x6_1 : Int), v5 = .int .i64 x5_1 ∧ v6 = .int .i64 x6_1 ∧ Aside0 (limnerref03_Winds.l0 kq l0 x5_1 x6_1 a1_0 a1_1 = some r) ∧ Aside0 (kq ≤ k) ∧ Aside0 (w'.heap[gb194]? = some (.cells #[.int .i64 a1_0, .int .i64 a1_1] 28 (0, 0))) ∧ Aside0 (Below w.heap.size w w'))
  case atStart => exact ⟨(0), (0), (by first | rfl | (simp; done) | (simp [*]; done)), (by first | rfl | (simp; done) | (simp [*]; done)), H', ⟨Nat.le_refl _⟩, ⟨by (with_reducible repeat (first | refine blk_drewN ?_ _ | refine blk_drew ?_ | refine blk_alloc ?_ _)); exact BK194.out⟩, ⟨by repeat (first | (with_reducible first | exact HB.out | apply below_alloc | apply pw_below_drewN | apply below_drew1 | refine below_set ?_ GE194.out) | exact HB.out)⟩⟩
  case round =>
    clear H'
    try clear c1
    try clear p2
    obtain ⟨x5_1, x6_1, rfl, rfl, HA, HK1, BK194, HB⟩ := hrel
    cases gk with
    | zero => exact absurd HA.out (by simp [limnerref03_Winds.l0])
    | succ k1 =>
      have H := HA.out
      clear HA
      simp only [limnerref03_Winds.l0] at H
      by_cases c4 : x6_1 < (l0.length : Int)
      · rw [if_pos c4] at H
        have c4b0 : decide (x6_1 < (l0.length : Int)) = true := decide_eq_true c4
        clear c4
        by_cases c5 : 0 ≤ x6_1
        · rw [if_pos c5] at H
          have c5b0 : decide (0 ≤ x6_1) = true := decide_eq_true c5
          clear c5
          by_cases c6 : 0 < (l0.length : Int)
          · rw [if_pos c6] at H
            have c6b0 : decide (0 < (l0.length : Int)) = true := decide_eq_true c6
            have c6b1 : decide (0 < l0.length) = true := decide_eq_true (by omega)
            clear c6
            have HC7 := Aside0.mk H
            clear H
            try go_wp2
            have n0_ := Aside0.mk (blk_drew BK194.out)
            have n1_ := Aside0.mk (below_drew1 HB.out)
            clear BK194
            clear HB
            have BK194 := n0_
            have HB := n1_
            clear n0_ n1_
            have p195 : 0 ≤ (x6_1 : Int) := of_decide_eq_true (by first | (with_reducible assumption) | assumption)
            have q195 : x6_1 < (l0.length : Int) := of_decide_eq_true (by first | (with_reducible assumption) | assumption)
            obtain ⟨ad195, e195, hx195_0, hx195_1⟩ := at_T28 HR0.out x6_1 p195 q195
            have hw195_1 := hx195_1
            have hw195_0 := hx195_0
            cases e195
            replace hx195_0 := (HB.out.cell (World.block_lt_of_cell? w _ hx195_0)).trans hx195_0
            replace hx195_1 := (HB.out.cell (World.block_lt_of_cell? w _ hx195_1)).trans hx195_1
            replace p195 := eq_true p195
            replace q195 := eq_true q195
            have p196 : 0 ≤ (0 : Int) := (by omega)
            have q196 : 0 < (l0.length : Int) := of_decide_eq_true (by first | (with_reducible assumption) | assumption)
            obtain ⟨ad196, e196, hx196_0, hx196_1⟩ := at_T28 HR0.out 0 p196 q196
            have hw196_1 := hx196_1
            (try rw [show ((0 : Int)).toNat = 0 from rfl] at hw196_1)
            (try rw [show 0 * 2 = 0 from rfl] at hw196_1)
            (try rw [Addr.add_zero'] at hw196_1)
            have hw196_0 := hx196_0
            (try rw [show ((0 : Int)).toNat = 0 from rfl] at hw196_0)
            (try rw [show 0 * 2 = 0 from rfl] at hw196_0)
            (try rw [Addr.add_zero'] at hw196_0)
            obtain rfl : ad195 = ad196 := (by injection e196)
            have qi196 : (0 < l0.length) = True := eq_true (by omega)
            (try rw [show ((0 : Int)).toNat = 0 from rfl] at hx196_0)
            (try rw [show 0 * 2 = 0 from rfl] at hx196_0)
            (try rw [Addr.add_zero'] at hx196_0)
            (try rw [show ((0 : Int)).toNat = 0 from rfl] at hx196_1)
            (try rw [show 0 * 2 = 0 from rfl] at hx196_1)
            (try rw [Addr.add_zero'] at hx196_1)
            replace hx196_0 := (HB.out.cell (World.block_lt_of_cell? w _ hx196_0)).trans hx196_0
            replace hx196_1 := (HB.out.cell (World.block_lt_of_cell? w _ hx196_1)).trans hx196_1
            replace p196 := eq_true p196
            replace q196 := eq_true q196
            refine start_ (n := 11) (S := fun w' => w'.cell? (ad195.add ((x6_1).toNat * 2)) = some (.int .i64 ((rd_T28 l0 x6_1).f0)) ∧ w'.cell? ⟨(ad195.add ((x6_1).toNat * 2)).block, (ad195.add ((x6_1).toNat * 2)).off + 1, none⟩ = some (.int .i64 ((rd_T28 l0 x6_1).f1)) ∧ w'.cell? ad195 = some (.int .i64 ((rd_T28 l0 0).f0)) ∧ w'.cell? ⟨ad195.block, ad195.off + 1, none⟩ = some (.int .i64 ((rd_T28 l0 0).f1))) (ds := []) #[false, false, false, false, false, false, false, false, false, false, false] (by kernel_rfl) rfl rfl ⟨((HB.out.cell (World.block_lt_of_cell? w _ hw195_0)).trans hw195_0), ((HB.out.cell (World.block_lt_of_cell? w _ hw195_1)).trans hw195_1), ((HB.out.cell (World.block_lt_of_cell? w _ hw196_0)).trans hw196_0), ((HB.out.cell (World.block_lt_of_cell? w _ hw196_1)).trans hw196_1)⟩ (fun hHeld => ?_); refine with_tabW limnerref03_Winds.tab5 limnerref03_Winds.bits5 (fun HT_ HW_ => ?_)
            generalize wr.drew = w8 at BK194 HB hx195_0 hx195_1 hx196_0 hx196_1 hHeld ⊢
            refine pure_ (i := 0) (N := some 15) (v := ?_) (a' := ?_) #[true, false, false, false, false, false, false, false, false, false, false] rfl rfl (any_of HT_.out (by kernel_rfl)) (fun _ _ _ h => h) (Or.inl ⟨by rfl, ?_⟩) ?_ ?_
            rotate_left
            · intro w'
              go_simp
              with_reducible rfl
            rotate_left
            · simp only [Act.put, List.setIfInBounds_toArray, List.set_cons_zero, List.set_cons_succ, i64_w, i32_w]
              rfl
            refine pure_ (i := 1) (N := some 16) (v := ?_) (a' := ?_) #[true, true, false, false, false, false, false, false, false, false, false] rfl rfl (any_of HT_.out (by kernel_rfl)) (fun _ _ _ h => h) (Or.inl ⟨by rfl, ?_⟩) ?_ ?_
            rotate_left
            · intro w'
              go_simp
              with_reducible rfl
            rotate_left
            · simp only [Act.put, List.setIfInBounds_toArray, List.set_cons_zero, List.set_cons_succ, i64_w, i32_w]
              rfl
            refine pure_ (i := 2) (N := some 17) (v := ?_) (a' := ?_) #[true, true, true, false, false, false, false, false, false, false, false] rfl rfl (any_of HT_.out (by kernel_rfl)) (fun _ _ _ h => h) (Or.inl ⟨by rfl, ?_⟩) ?_ ?_
            rotate_left
            · intro w'
              go_simp
              with_reducible rfl
            rotate_left
            · simp only [Act.put, List.setIfInBounds_toArray, List.set_cons_zero, List.set_cons_succ, i64_w, i32_w]
              rfl
            refine pure_ (i := 4) (N := some 19) (v := ?_) (a' := ?_) #[true, true, true, false, true, false, false, false, false, false, false] rfl rfl (any_of HT_.out (by kernel_rfl)) (fun _ _ _ h => h) (Or.inl ⟨by rfl, ?_⟩) ?_ ?_
            rotate_left
            · intro w'
              go_simp
              with_reducible rfl
            rotate_left
            · simp only [Act.put, List.setIfInBounds_toArray, List.set_cons_zero, List.set_cons_succ, i64_w, i32_w]
              rfl
            refine pure_ (i := 5) (N := some 20) (v := ?_) (a' := ?_) #[true, true, true, false, true, true, false, false, false, false, false] rfl rfl (any_of HT_.out (by kernel_rfl)) (fun _ _ _ h => h) (Or.inl ⟨by rfl, ?_⟩) ?_ ?_
            rotate_left
            · intro w'
              go_simp
              with_reducible rfl
            rotate_left
            · simp only [Act.put, List.setIfInBounds_toArray, List.set_cons_zero, List.set_cons_succ, i64_w, i32_w]
              rfl
            refine take_ (i := 3) (N := some 18) (v := ?_) (a' := ?_) #[true, true, true, true, true, true, false, false, false, false, false] rfl rfl (take_ofW HT_.out HW_.out (by kernel_rfl)) (fun _ _ _ h => h) (Or.inl ⟨by rfl, ?_⟩) hHeld ?_ ?_
            rotate_left
            · rintro w' ⟨s0, s1, s2, s3⟩
              go_simp
              with_reducible rfl
            rotate_left
            · simp only [Act.put, List.setIfInBounds_toArray, List.set_cons_zero, List.set_cons_succ, i64_w, i32_w]
              rfl
            refine take_ (i := 6) (N := some 21) (v := ?_) (a' := ?_) #[true, true, true, true, true, true, true, false, false, false, false] rfl rfl (take_ofW HT_.out HW_.out (by kernel_rfl)) (fun _ _ _ h => h) (Or.inl ⟨by rfl, ?_⟩) hHeld ?_ ?_
            rotate_left
            · rintro w' ⟨s0, s1, s2, s3⟩
              go_simp
              with_reducible rfl
            rotate_left
            · simp only [Act.put, List.setIfInBounds_toArray, List.set_cons_zero, List.set_cons_succ, i64_w, i32_w]
              rfl
            refine join_ (σ := Nat × Nat) 2 #[true, true, true, true, true, true, true, true, true, false, false] (fun s_ => [(7, .pointer (some ⟨s_.1, 0, none⟩)), (8, .pointer (some ⟨s_.2, 0, none⟩))]) (fun s_ w' => (w'.cell? (ad195.add ((x6_1).toNat * 2)) = some (.int .i64 ((rd_T28 l0 x6_1).f0)) ∧ w'.cell? ⟨(ad195.add ((x6_1).toNat * 2)).block, (ad195.add ((x6_1).toNat * 2)).off + 1, none⟩ = some (.int .i64 ((rd_T28 l0 x6_1).f1)) ∧ w'.cell? ad195 = some (.int .i64 ((rd_T28 l0 0).f0)) ∧ w'.cell? ⟨ad195.block, ad195.off + 1, none⟩ = some (.int .i64 ((rd_T28 l0 0).f1))) ∧ (w'.heap[gb194]? = some (.cells #[.int .i64 a1_0, .int .i64 a1_1] 28 (0, 0))) ∧ (w'.heap[s_.1]? = some (.cells #[.int .i64 0, .int .i64 0] 28 (0, 0))) ∧ (w'.heap[s_.2]? = some (.cells #[.int .i64 0, .int .i64 0] 28 (0, 0))) ∧ (w.heap.size ≤ s_.1) ∧ (w.heap.size ≤ s_.1) ∧ (gb194 ≠ s_.1) ∧ (s_.1 ≠ gb194) ∧ (s_.2 ≠ s_.1) ∧ (s_.1 ≠ s_.2) ∧ (w.heap.size ≤ s_.2) ∧ (w.heap.size ≤ s_.2) ∧ (gb194 ≠ s_.2) ∧ (s_.2 ≠ gb194) ∧ (Below w.heap.size w w')) ?_ ?_
            rotate_left
            · intro hCont
              refine two_ (i := 7) (j := 8) (Ni := some 7) (Nj := some 8) #[true, true, true, true, true, true, true, true, false, false, false] #[true, true, true, true, true, true, true, false, true, false, false] rfl rfl rfl rfl (two_of HT_.out (by kernel_rfl)) (by decide) (by decide) (fun K hK => ?_) (fun K hK => ?_)
              · skip
                refine box_step ?hg (N := 7) ?hd (cs := #[.int .i64 0, .int .i64 0]) (t := 28) ?hr ?_; (case hd => rfl); (case hg => rfl); (case hr => first | (go_simp; done) | (go_simp; rfl))
                intro gb197 hg w9 hbox hb
                have n0_ := Aside0.mk (blk_below (g := gb194) (o := .cells #[.int .i64 a1_0, .int .i64 a1_1] 28 (0, 0)) (by (with_reducible repeat (first | refine blk_drewN ?_ _ | refine blk_drew ?_ | refine blk_alloc ?_ _)); exact BK194.out) hb)
                have n1_ := Aside0.mk (below_step (by repeat (first | (with_reducible first | exact HB.out | apply below_alloc | apply pw_below_drewN | apply below_drew1 | refine below_set ?_ GE194.out) | exact HB.out)) hb)
                have n2_ := Aside0.mk (hbox)
                have n3_ := Aside0.mk ((by rw [hg]; exact (below_size (by repeat (first | (with_reducible first | exact HB.out | apply below_alloc | apply pw_below_drewN | apply below_drew1 | refine below_set ?_ GE194.out) | exact HB.out))) : w.heap.size ≤ gb197))
                have n4_ := Aside0.mk ((by rw [hg]; exact (below_size (by repeat (first | (with_reducible first | exact HB.out | apply below_alloc | apply pw_below_drewN | apply below_drew1 | refine below_set ?_ GE194.out) | exact HB.out))) : w.heap.size ≤ gb197))
                have n5_ := Aside0.mk ((by rw [hg]; exact Nat.ne_of_lt (blk_lt (g := gb194) (o := .cells #[.int .i64 a1_0, .int .i64 a1_1] 28 (0, 0)) (by (with_reducible repeat (first | refine blk_drewN ?_ _ | refine blk_drew ?_ | refine blk_alloc ?_ _)); exact BK194.out)) : gb194 ≠ gb197))
                have n6_ := Aside0.mk ((by rw [hg]; exact Nat.ne_of_gt (blk_lt (g := gb194) (o := .cells #[.int .i64 a1_0, .int .i64 a1_1] 28 (0, 0)) (by (with_reducible repeat (first | refine blk_drewN ?_ _ | refine blk_drew ?_ | refine blk_alloc ?_ _)); exact BK194.out)) : gb197 ≠ gb194))
                clear BK194
                clear HB
                have BK194 := n0_
                have HB := n1_
                have BK197 := n2_
                have GW197 := n3_
                have GE197 := n4_
                have NB194_197 := n5_
                have NB197_194 := n6_
                clear n0_ n1_ n2_ n3_ n4_ n5_ n6_
                clear hb hbox hg
                refine hK.out _ _ ⟨((HB.out.cell (World.block_lt_of_cell? w _ hw195_0)).trans hw195_0), ((HB.out.cell (World.block_lt_of_cell? w _ hw195_1)).trans hw195_1), ((HB.out.cell (World.block_lt_of_cell? w _ hw196_0)).trans hw196_0), ((HB.out.cell (World.block_lt_of_cell? w _ hw196_1)).trans hw196_1)⟩ (fun hHeld => ?_)
                clear hK K
                refine norm_ (a' := ?_) ?_ ?_
                rotate_left
                · show Act.put _ (some 7) _ = _
                  simp only [Act.put, List.setIfInBounds_toArray, List.set_cons_zero, List.set_cons_succ, i64_w, i32_w]
                  rfl
                refine one_ (i := 8) (N := some 8) #[true, true, true, true, true, true, true, true, true, false, false] rfl rfl (one_of HT_.out (by kernel_rfl)) (by decide) (fun K hK => ?_)
                refine box_step ?hg (N := 8) ?hd (cs := #[.int .i64 0, .int .i64 0]) (t := 28) ?hr ?_; (case hd => rfl); (case hg => rfl); (case hr => first | (go_simp; done) | (go_simp; rfl))
                intro gb198 hg w10 hbox hb
                have n0_ := Aside0.mk (blk_below (g := gb194) (o := .cells #[.int .i64 a1_0, .int .i64 a1_1] 28 (0, 0)) (by (with_reducible repeat (first | refine blk_drewN ?_ _ | refine blk_drew ?_ | refine blk_alloc ?_ _)); exact BK194.out) hb)
                have n1_ := Aside0.mk (blk_below (g := gb197) (o := .cells #[.int .i64 0, .int .i64 0] 28 (0, 0)) (by (with_reducible repeat (first | refine blk_drewN ?_ _ | refine blk_drew ?_ | refine blk_alloc ?_ _)); exact BK197.out) hb)
                have n2_ := Aside0.mk (below_step (by repeat (first | (with_reducible first | exact HB.out | apply below_alloc | apply pw_below_drewN | apply below_drew1 | refine below_set ?_ GE194.out | refine below_set ?_ GE197.out) | exact HB.out)) hb)
                have n3_ := Aside0.mk (hbox)
                have n4_ := Aside0.mk ((by rw [hg]; exact (below_size (by repeat (first | (with_reducible first | exact HB.out | apply below_alloc | apply pw_below_drewN | apply below_drew1 | refine below_set ?_ GE194.out | refine below_set ?_ GE197.out) | exact HB.out))) : w.heap.size ≤ gb198))
                have n5_ := Aside0.mk ((by rw [hg]; exact (below_size (by repeat (first | (with_reducible first | exact HB.out | apply below_alloc | apply pw_below_drewN | apply below_drew1 | refine below_set ?_ GE194.out | refine below_set ?_ GE197.out) | exact HB.out))) : w.heap.size ≤ gb198))
                have n6_ := Aside0.mk ((by rw [hg]; exact Nat.ne_of_lt (blk_lt (g := gb194) (o := .cells #[.int .i64 a1_0, .int .i64 a1_1] 28 (0, 0)) (by (with_reducible repeat (first | refine blk_drewN ?_ _ | refine blk_drew ?_ | refine blk_alloc ?_ _)); exact BK194.out)) : gb194 ≠ gb198))
                have n7_ := Aside0.mk ((by rw [hg]; exact Nat.ne_of_gt (blk_lt (g := gb194) (o := .cells #[.int .i64 a1_0, .int .i64 a1_1] 28 (0, 0)) (by (with_reducible repeat (first | refine blk_drewN ?_ _ | refine blk_drew ?_ | refine blk_alloc ?_ _)); exact BK194.out)) : gb198 ≠ gb194))
                have n8_ := Aside0.mk ((by rw [hg]; exact Nat.ne_of_lt (blk_lt (g := gb197) (o := .cells #[.int .i64 0, .int .i64 0] 28 (0, 0)) (by (with_reducible repeat (first | refine blk_drewN ?_ _ | refine blk_drew ?_ | refine blk_alloc ?_ _)); exact BK197.out)) : gb197 ≠ gb198))
                have n9_ := Aside0.mk ((by rw [hg]; exact Nat.ne_of_gt (blk_lt (g := gb197) (o := .cells #[.int .i64 0, .int .i64 0] 28 (0, 0)) (by (with_reducible repeat (first | refine blk_drewN ?_ _ | refine blk_drew ?_ | refine blk_alloc ?_ _)); exact BK197.out)) : gb198 ≠ gb197))
                clear BK194
                clear BK197
                clear HB
                have BK194 := n0_
                have BK197 := n1_
                have HB := n2_
                have BK198 := n3_
                have GW198 := n4_
                have GE198 := n5_
                have NB194_198 := n6_
                have NB198_194 := n7_
                have NB197_198 := n8_
                have NB198_197 := n9_
                clear n0_ n1_ n2_ n3_ n4_ n5_ n6_ n7_ n8_ n9_
                clear hb hbox hg
                refine hK.out _ _ ⟨((HB.out.cell (World.block_lt_of_cell? w _ hw195_0)).trans hw195_0), ((HB.out.cell (World.block_lt_of_cell? w _ hw195_1)).trans hw195_1), ((HB.out.cell (World.block_lt_of_cell? w _ hw196_0)).trans hw196_0), ((HB.out.cell (World.block_lt_of_cell? w _ hw196_1)).trans hw196_1)⟩ (fun hHeld => ?_)
                clear hK K
                refine norm_ (a' := ?_) ?_ ?_
                rotate_left
                · show Act.put _ (some 8) _ = _
                  simp only [Act.put, List.setIfInBounds_toArray, List.set_cons_zero, List.set_cons_succ, i64_w, i32_w]
                  rfl
                exact norm_ (by simp only [putAll, Act.put, List.setIfInBounds_toArray, List.set_cons_zero, List.set_cons_succ]) (hCont (gb197, gb198) _ ⟨hHeld, (by (with_reducible repeat (first | refine blk_drewN ?_ _ | refine blk_drew ?_ | refine blk_alloc ?_ _)); exact BK194.out), (by (with_reducible repeat (first | refine blk_drewN ?_ _ | refine blk_drew ?_ | refine blk_alloc ?_ _)); exact BK197.out), (by (with_reducible repeat (first | refine blk_drewN ?_ _ | refine blk_drew ?_ | refine blk_alloc ?_ _)); exact BK198.out), GW197.out, GE197.out, NB194_197.out, NB197_194.out, NB198_197.out, NB197_198.out, GW198.out, GE198.out, NB194_198.out, NB198_194.out, (by repeat (first | (with_reducible first | exact HB.out | apply below_alloc | apply pw_below_drewN | apply below_drew1 | refine below_set ?_ GE194.out | refine below_set ?_ GE197.out | refine below_set ?_ GE198.out) | exact HB.out))⟩)
              · skip
                refine box_step ?hg (N := 8) ?hd (cs := #[.int .i64 0, .int .i64 0]) (t := 28) ?hr ?_; (case hd => rfl); (case hg => rfl); (case hr => first | (go_simp; done) | (go_simp; rfl))
                intro gb198 hg w9 hbox hb
                have n0_ := Aside0.mk (blk_below (g := gb194) (o := .cells #[.int .i64 a1_0, .int .i64 a1_1] 28 (0, 0)) (by (with_reducible repeat (first | refine blk_drewN ?_ _ | refine blk_drew ?_ | refine blk_alloc ?_ _)); exact BK194.out) hb)
                have n1_ := Aside0.mk (below_step (by repeat (first | (with_reducible first | exact HB.out | apply below_alloc | apply pw_below_drewN | apply below_drew1 | refine below_set ?_ GE194.out) | exact HB.out)) hb)
                have n2_ := Aside0.mk (hbox)
                have n3_ := Aside0.mk ((by rw [hg]; exact (below_size (by repeat (first | (with_reducible first | exact HB.out | apply below_alloc | apply pw_below_drewN | apply below_drew1 | refine below_set ?_ GE194.out) | exact HB.out))) : w.heap.size ≤ gb198))
                have n4_ := Aside0.mk ((by rw [hg]; exact (below_size (by repeat (first | (with_reducible first | exact HB.out | apply below_alloc | apply pw_below_drewN | apply below_drew1 | refine below_set ?_ GE194.out) | exact HB.out))) : w.heap.size ≤ gb198))
                have n5_ := Aside0.mk ((by rw [hg]; exact Nat.ne_of_lt (blk_lt (g := gb194) (o := .cells #[.int .i64 a1_0, .int .i64 a1_1] 28 (0, 0)) (by (with_reducible repeat (first | refine blk_drewN ?_ _ | refine blk_drew ?_ | refine blk_alloc ?_ _)); exact BK194.out)) : gb194 ≠ gb198))
                have n6_ := Aside0.mk ((by rw [hg]; exact Nat.ne_of_gt (blk_lt (g := gb194) (o := .cells #[.int .i64 a1_0, .int .i64 a1_1] 28 (0, 0)) (by (with_reducible repeat (first | refine blk_drewN ?_ _ | refine blk_drew ?_ | refine blk_alloc ?_ _)); exact BK194.out)) : gb198 ≠ gb194))
                clear BK194
                clear HB
                have BK194 := n0_
                have HB := n1_
                have BK198 := n2_
                have GW198 := n3_
                have GE198 := n4_
                have NB194_198 := n5_
                have NB198_194 := n6_
                clear n0_ n1_ n2_ n3_ n4_ n5_ n6_
                clear hb hbox hg
                refine hK.out _ _ ⟨((HB.out.cell (World.block_lt_of_cell? w _ hw195_0)).trans hw195_0), ((HB.out.cell (World.block_lt_of_cell? w _ hw195_1)).trans hw195_1), ((HB.out.cell (World.block_lt_of_cell? w _ hw196_0)).trans hw196_0), ((HB.out.cell (World.block_lt_of_cell? w _ hw196_1)).trans hw196_1)⟩ (fun hHeld => ?_)
                clear hK K
                refine norm_ (a' := ?_) ?_ ?_
                rotate_left
                · show Act.put _ (some 8) _ = _
                  simp only [Act.put, List.setIfInBounds_toArray, List.set_cons_zero, List.set_cons_succ, i64_w, i32_w]
                  rfl
                refine one_ (i := 7) (N := some 7) #[true, true, true, true, true, true, true, true, true, false, false] rfl rfl (one_of HT_.out (by kernel_rfl)) (by decide) (fun K hK => ?_)
                refine box_step ?hg (N := 7) ?hd (cs := #[.int .i64 0, .int .i64 0]) (t := 28) ?hr ?_; (case hd => rfl); (case hg => rfl); (case hr => first | (go_simp; done) | (go_simp; rfl))
                intro gb197 hg w10 hbox hb
                have n0_ := Aside0.mk (blk_below (g := gb194) (o := .cells #[.int .i64 a1_0, .int .i64 a1_1] 28 (0, 0)) (by (with_reducible repeat (first | refine blk_drewN ?_ _ | refine blk_drew ?_ | refine blk_alloc ?_ _)); exact BK194.out) hb)
                have n1_ := Aside0.mk (blk_below (g := gb198) (o := .cells #[.int .i64 0, .int .i64 0] 28 (0, 0)) (by (with_reducible repeat (first | refine blk_drewN ?_ _ | refine blk_drew ?_ | refine blk_alloc ?_ _)); exact BK198.out) hb)
                have n2_ := Aside0.mk (below_step (by repeat (first | (with_reducible first | exact HB.out | apply below_alloc | apply pw_below_drewN | apply below_drew1 | refine below_set ?_ GE194.out | refine below_set ?_ GE198.out) | exact HB.out)) hb)
                have n3_ := Aside0.mk (hbox)
                have n4_ := Aside0.mk ((by rw [hg]; exact (below_size (by repeat (first | (with_reducible first | exact HB.out | apply below_alloc | apply pw_below_drewN | apply below_drew1 | refine below_set ?_ GE194.out | refine below_set ?_ GE198.out) | exact HB.out))) : w.heap.size ≤ gb197))
                have n5_ := Aside0.mk ((by rw [hg]; exact (below_size (by repeat (first | (with_reducible first | exact HB.out | apply below_alloc | apply pw_below_drewN | apply below_drew1 | refine below_set ?_ GE194.out | refine below_set ?_ GE198.out) | exact HB.out))) : w.heap.size ≤ gb197))
                have n6_ := Aside0.mk ((by rw [hg]; exact Nat.ne_of_lt (blk_lt (g := gb194) (o := .cells #[.int .i64 a1_0, .int .i64 a1_1] 28 (0, 0)) (by (with_reducible repeat (first | refine blk_drewN ?_ _ | refine blk_drew ?_ | refine blk_alloc ?_ _)); exact BK194.out)) : gb194 ≠ gb197))
                have n7_ := Aside0.mk ((by rw [hg]; exact Nat.ne_of_gt (blk_lt (g := gb194) (o := .cells #[.int .i64 a1_0, .int .i64 a1_1] 28 (0, 0)) (by (with_reducible repeat (first | refine blk_drewN ?_ _ | refine blk_drew ?_ | refine blk_alloc ?_ _)); exact BK194.out)) : gb197 ≠ gb194))
                have n8_ := Aside0.mk ((by rw [hg]; exact Nat.ne_of_lt (blk_lt (g := gb198) (o := .cells #[.int .i64 0, .int .i64 0] 28 (0, 0)) (by (with_reducible repeat (first | refine blk_drewN ?_ _ | refine blk_drew ?_ | refine blk_alloc ?_ _)); exact BK198.out)) : gb198 ≠ gb197))
                have n9_ := Aside0.mk ((by rw [hg]; exact Nat.ne_of_gt (blk_lt (g := gb198) (o := .cells #[.int .i64 0, .int .i64 0] 28 (0, 0)) (by (with_reducible repeat (first | refine blk_drewN ?_ _ | refine blk_drew ?_ | refine blk_alloc ?_ _)); exact BK198.out)) : gb197 ≠ gb198))
                clear BK194
                clear BK198
                clear HB
                have BK194 := n0_
                have BK198 := n1_
                have HB := n2_
                have BK197 := n3_
                have GW197 := n4_
                have GE197 := n5_
                have NB194_197 := n6_
                have NB197_194 := n7_
                have NB198_197 := n8_
                have NB197_198 := n9_
                clear n0_ n1_ n2_ n3_ n4_ n5_ n6_ n7_ n8_ n9_
                clear hb hbox hg
                refine hK.out _ _ ⟨((HB.out.cell (World.block_lt_of_cell? w _ hw195_0)).trans hw195_0), ((HB.out.cell (World.block_lt_of_cell? w _ hw195_1)).trans hw195_1), ((HB.out.cell (World.block_lt_of_cell? w _ hw196_0)).trans hw196_0), ((HB.out.cell (World.block_lt_of_cell? w _ hw196_1)).trans hw196_1)⟩ (fun hHeld => ?_)
                clear hK K
                refine norm_ (a' := ?_) ?_ ?_
                rotate_left
                · show Act.put _ (some 7) _ = _
                  simp only [Act.put, List.setIfInBounds_toArray, List.set_cons_zero, List.set_cons_succ, i64_w, i32_w]
                  rfl
                exact norm_ (by simp only [putAll, Act.put, List.setIfInBounds_toArray, List.set_cons_zero, List.set_cons_succ]) (hCont (gb197, gb198) _ ⟨hHeld, (by (with_reducible repeat (first | refine blk_drewN ?_ _ | refine blk_drew ?_ | refine blk_alloc ?_ _)); exact BK194.out), (by (with_reducible repeat (first | refine blk_drewN ?_ _ | refine blk_drew ?_ | refine blk_alloc ?_ _)); exact BK197.out), (by (with_reducible repeat (first | refine blk_drewN ?_ _ | refine blk_drew ?_ | refine blk_alloc ?_ _)); exact BK198.out), GW197.out, GE197.out, NB194_197.out, NB197_194.out, NB198_197.out, NB197_198.out, GW198.out, GE198.out, NB194_198.out, NB198_194.out, (by repeat (first | (with_reducible first | exact HB.out | apply below_alloc | apply pw_below_drewN | apply below_drew1 | refine below_set ?_ GE194.out | refine below_set ?_ GE198.out | refine below_set ?_ GE197.out) | exact HB.out))⟩)
            rintro ⟨gb197, gb198⟩ w11 ⟨hS_, h0_, h1_, h2_, h3_, h4_, h5_, h6_, h7_, h8_, h9_, h10_, h11_, h12_, h13_⟩
            have n0_ : Aside0 (w11.heap[gb194]? = some (.cells #[.int .i64 a1_0, .int .i64 a1_1] 28 (0, 0))) := ⟨h0_⟩
            have n1_ : Aside0 (w11.heap[gb197]? = some (.cells #[.int .i64 0, .int .i64 0] 28 (0, 0))) := ⟨h1_⟩
            have n2_ : Aside0 (w11.heap[gb198]? = some (.cells #[.int .i64 0, .int .i64 0] 28 (0, 0))) := ⟨h2_⟩
            have n3_ : Aside0 (w.heap.size ≤ gb197) := ⟨h3_⟩
            have n4_ : Aside0 (w.heap.size ≤ gb197) := ⟨h4_⟩
            have n5_ : Aside0 (gb194 ≠ gb197) := ⟨h5_⟩
            have n6_ : Aside0 (gb197 ≠ gb194) := ⟨h6_⟩
            have n7_ : Aside0 (gb198 ≠ gb197) := ⟨h7_⟩
            have n8_ : Aside0 (gb197 ≠ gb198) := ⟨h8_⟩
            have n9_ : Aside0 (w.heap.size ≤ gb198) := ⟨h9_⟩
            have n10_ : Aside0 (w.heap.size ≤ gb198) := ⟨h10_⟩
            have n11_ : Aside0 (gb194 ≠ gb198) := ⟨h11_⟩
            have n12_ : Aside0 (gb198 ≠ gb194) := ⟨h12_⟩
            have n13_ : Aside0 (Below w.heap.size w w11) := ⟨h13_⟩
            clear BK194
            clear HB
            clear h0_ h1_ h2_ h3_ h4_ h5_ h6_ h7_ h8_ h9_ h10_ h11_ h12_ h13_
            have BK194 := n0_
            have BK197 := n1_
            have BK198 := n2_
            have GW197 := n3_
            have GE197 := n4_
            have NB194_197 := n5_
            have NB197_194 := n6_
            have NB198_197 := n7_
            have NB197_198 := n8_
            have GW198 := n9_
            have GE198 := n10_
            have NB194_198 := n11_
            have NB198_194 := n12_
            have HB := n13_
            clear n0_ n1_ n2_ n3_ n4_ n5_ n6_ n7_ n8_ n9_ n10_ n11_ n12_ n13_
            have hHeld : w11.cell? (ad195.add ((x6_1).toNat * 2)) = some (.int .i64 ((rd_T28 l0 x6_1).f0)) ∧ w11.cell? ⟨(ad195.add ((x6_1).toNat * 2)).block, (ad195.add ((x6_1).toNat * 2)).off + 1, none⟩ = some (.int .i64 ((rd_T28 l0 x6_1).f1)) ∧ w11.cell? ad195 = some (.int .i64 ((rd_T28 l0 0).f0)) ∧ w11.cell? ⟨ad195.block, ad195.off + 1, none⟩ = some (.int .i64 ((rd_T28 l0 0).f1)) := hS_
            refine norm_ (a' := ?_) ?_ ?_
            rotate_left
            · simp only [putAll, Act.put, List.setIfInBounds_toArray, List.set_cons_zero, List.set_cons_succ]
              rfl
            refine one_ (i := 9) (N := none) #[true, true, true, true, true, true, true, true, true, true, false] rfl rfl (one_of HT_.out (by kernel_rfl)) (by decide) (fun K hK => ?_)
            have hs12 : w11.cell? ⟨gb197, 0, none⟩ = some (.int .i64 0) := (blk_cell BK197.out 0).trans rfl
            have hfs12 := blk_frozen BK197.out 0
            have hns12_0 := NB194_197.out
            have hns12_2 := NB198_197.out
            have hms12_0 := NB197_194.out
            have hms12_2 := NB197_198.out
            have hs13 : w11.cell? ⟨gb197, 1, none⟩ = some (.int .i64 0) := (blk_cell BK197.out 1).trans rfl
            have hfs13 := blk_frozen BK197.out 1
            have hns13_0 := NB194_197.out
            have hns13_2 := NB198_197.out
            have hms13_0 := NB197_194.out
            have hms13_2 := NB197_198.out
            refine skip_ (w1 := ?_) (by rfl) rfl ?_ ?_
            rotate_left
            · go_simp
              rfl
            refine hK.out _ _ ⟨((cell_far (p := ⟨gb197, _, none⟩) (by first | exact Nat.ne_of_lt (Nat.lt_of_lt_of_le (by have := World.block_lt_of_cell? _ _ hw195_0; first | rwa [add_block] at this | exact this) GW197.out) | (rw [add_block]; exact Nat.ne_of_lt (Nat.lt_of_lt_of_le (by have := World.block_lt_of_cell? _ _ hw195_0; first | rwa [add_block] at this | exact this) GW197.out)) | (show (Addr.add _ _).block ≠ _; rw [add_block]; exact Nat.ne_of_lt (Nat.lt_of_lt_of_le (by have := World.block_lt_of_cell? _ _ hw195_0; first | rwa [add_block] at this | exact this) GW197.out)) | (dsimp only; exact Nat.ne_of_lt (Nat.lt_of_lt_of_le (by have := World.block_lt_of_cell? _ _ hw195_0; first | rwa [add_block] at this | exact this) GW197.out))) _).trans (((cell_far (p := ⟨gb197, _, none⟩) (by first | exact Nat.ne_of_lt (Nat.lt_of_lt_of_le (by have := World.block_lt_of_cell? _ _ hw195_0; first | rwa [add_block] at this | exact this) GW197.out) | (rw [add_block]; exact Nat.ne_of_lt (Nat.lt_of_lt_of_le (by have := World.block_lt_of_cell? _ _ hw195_0; first | rwa [add_block] at this | exact this) GW197.out)) | (show (Addr.add _ _).block ≠ _; rw [add_block]; exact Nat.ne_of_lt (Nat.lt_of_lt_of_le (by have := World.block_lt_of_cell? _ _ hw195_0; first | rwa [add_block] at this | exact this) GW197.out)) | (dsimp only; exact Nat.ne_of_lt (Nat.lt_of_lt_of_le (by have := World.block_lt_of_cell? _ _ hw195_0; first | rwa [add_block] at this | exact this) GW197.out))) _).trans (hHeld.1)))), ((cell_far (p := ⟨gb197, _, none⟩) (by first | exact Nat.ne_of_lt (Nat.lt_of_lt_of_le (by have := World.block_lt_of_cell? _ _ hw195_1; first | rwa [add_block] at this | exact this) GW197.out) | (rw [add_block]; exact Nat.ne_of_lt (Nat.lt_of_lt_of_le (by have := World.block_lt_of_cell? _ _ hw195_1; first | rwa [add_block] at this | exact this) GW197.out)) | (show (Addr.add _ _).block ≠ _; rw [add_block]; exact Nat.ne_of_lt (Nat.lt_of_lt_of_le (by have := World.block_lt_of_cell? _ _ hw195_1; first | rwa [add_block] at this | exact this) GW197.out)) | (dsimp only; exact Nat.ne_of_lt (Nat.lt_of_lt_of_le (by have := World.block_lt_of_cell? _ _ hw195_1; first | rwa [add_block] at this | exact this) GW197.out))) _).trans (((cell_far (p := ⟨gb197, _, none⟩) (by first | exact Nat.ne_of_lt (Nat.lt_of_lt_of_le (by have := World.block_lt_of_cell? _ _ hw195_1; first | rwa [add_block] at this | exact this) GW197.out) | (rw [add_block]; exact Nat.ne_of_lt (Nat.lt_of_lt_of_le (by have := World.block_lt_of_cell? _ _ hw195_1; first | rwa [add_block] at this | exact this) GW197.out)) | (show (Addr.add _ _).block ≠ _; rw [add_block]; exact Nat.ne_of_lt (Nat.lt_of_lt_of_le (by have := World.block_lt_of_cell? _ _ hw195_1; first | rwa [add_block] at this | exact this) GW197.out)) | (dsimp only; exact Nat.ne_of_lt (Nat.lt_of_lt_of_le (by have := World.block_lt_of_cell? _ _ hw195_1; first | rwa [add_block] at this | exact this) GW197.out))) _).trans (hHeld.2.1)))), ((cell_far (p := ⟨gb197, _, none⟩) (by first | exact Nat.ne_of_lt (Nat.lt_of_lt_of_le (by have := World.block_lt_of_cell? _ _ hw196_0; first | rwa [add_block] at this | exact this) GW197.out) | (rw [add_block]; exact Nat.ne_of_lt (Nat.lt_of_lt_of_le (by have := World.block_lt_of_cell? _ _ hw196_0; first | rwa [add_block] at this | exact this) GW197.out)) | (show (Addr.add _ _).block ≠ _; rw [add_block]; exact Nat.ne_of_lt (Nat.lt_of_lt_of_le (by have := World.block_lt_of_cell? _ _ hw196_0; first | rwa [add_block] at this | exact this) GW197.out)) | (dsimp only; exact Nat.ne_of_lt (Nat.lt_of_lt_of_le (by have := World.block_lt_of_cell? _ _ hw196_0; first | rwa [add_block] at this | exact this) GW197.out))) _).trans (((cell_far (p := ⟨gb197, _, none⟩) (by first | exact Nat.ne_of_lt (Nat.lt_of_lt_of_le (by have := World.block_lt_of_cell? _ _ hw196_0; first | rwa [add_block] at this | exact this) GW197.out) | (rw [add_block]; exact Nat.ne_of_lt (Nat.lt_of_lt_of_le (by have := World.block_lt_of_cell? _ _ hw196_0; first | rwa [add_block] at this | exact this) GW197.out)) | (show (Addr.add _ _).block ≠ _; rw [add_block]; exact Nat.ne_of_lt (Nat.lt_of_lt_of_le (by have := World.block_lt_of_cell? _ _ hw196_0; first | rwa [add_block] at this | exact this) GW197.out)) | (dsimp only; exact Nat.ne_of_lt (Nat.lt_of_lt_of_le (by have := World.block_lt_of_cell? _ _ hw196_0; first | rwa [add_block] at this | exact this) GW197.out))) _).trans (hHeld.2.2.1)))), ((cell_far (p := ⟨gb197, _, none⟩) (by first | exact Nat.ne_of_lt (Nat.lt_of_lt_of_le (by have := World.block_lt_of_cell? _ _ hw196_1; first | rwa [add_block] at this | exact this) GW197.out) | (rw [add_block]; exact Nat.ne_of_lt (Nat.lt_of_lt_of_le (by have := World.block_lt_of_cell? _ _ hw196_1; first | rwa [add_block] at this | exact this) GW197.out)) | (show (Addr.add _ _).block ≠ _; rw [add_block]; exact Nat.ne_of_lt (Nat.lt_of_lt_of_le (by have := World.block_lt_of_cell? _ _ hw196_1; first | rwa [add_block] at this | exact this) GW197.out)) | (dsimp only; exact Nat.ne_of_lt (Nat.lt_of_lt_of_le (by have := World.block_lt_of_cell? _ _ hw196_1; first | rwa [add_block] at this | exact this) GW197.out))) _).trans (((cell_far (p := ⟨gb197, _, none⟩) (by first | exact Nat.ne_of_lt (Nat.lt_of_lt_of_le (by have := World.block_lt_of_cell? _ _ hw196_1; first | rwa [add_block] at this | exact this) GW197.out) | (rw [add_block]; exact Nat.ne_of_lt (Nat.lt_of_lt_of_le (by have := World.block_lt_of_cell? _ _ hw196_1; first | rwa [add_block] at this | exact this) GW197.out)) | (show (Addr.add _ _).block ≠ _; rw [add_block]; exact Nat.ne_of_lt (Nat.lt_of_lt_of_le (by have := World.block_lt_of_cell? _ _ hw196_1; first | rwa [add_block] at this | exact this) GW197.out)) | (dsimp only; exact Nat.ne_of_lt (Nat.lt_of_lt_of_le (by have := World.block_lt_of_cell? _ _ hw196_1; first | rwa [add_block] at this | exact this) GW197.out))) _).trans (hHeld.2.2.2))))⟩ (fun hHeld => ?_)
            clear hK K
            refine one_ (i := 10) (N := none) #[true, true, true, true, true, true, true, true, true, true, true] rfl rfl (one_of HT_.out (by kernel_rfl)) (by decide) (fun K hK => ?_)
            have hs14 : w11.cell? ⟨gb198, 0, none⟩ = some (.int .i64 0) := (blk_cell BK198.out 0).trans rfl
            have hfs14 := blk_frozen BK198.out 0
            have hns14_0 := NB194_198.out
            have hns14_1 := NB197_198.out
            have hms14_0 := NB198_194.out
            have hms14_1 := NB198_197.out
            have hs15 : w11.cell? ⟨gb198, 1, none⟩ = some (.int .i64 0) := (blk_cell BK198.out 1).trans rfl
            have hfs15 := blk_frozen BK198.out 1
            have hns15_0 := NB194_198.out
            have hns15_1 := NB197_198.out
            have hms15_0 := NB198_194.out
            have hms15_1 := NB198_197.out
            refine skip_ (w1 := ?_) (by rfl) rfl ?_ ?_
            rotate_left
            · go_simp
              rfl
            refine hK.out _ _ ⟨((cell_far (p := ⟨gb198, _, none⟩) (by first | exact Nat.ne_of_lt (Nat.lt_of_lt_of_le (by have := World.block_lt_of_cell? _ _ hw195_0; first | rwa [add_block] at this | exact this) GW198.out) | (rw [add_block]; exact Nat.ne_of_lt (Nat.lt_of_lt_of_le (by have := World.block_lt_of_cell? _ _ hw195_0; first | rwa [add_block] at this | exact this) GW198.out)) | (show (Addr.add _ _).block ≠ _; rw [add_block]; exact Nat.ne_of_lt (Nat.lt_of_lt_of_le (by have := World.block_lt_of_cell? _ _ hw195_0; first | rwa [add_block] at this | exact this) GW198.out)) | (dsimp only; exact Nat.ne_of_lt (Nat.lt_of_lt_of_le (by have := World.block_lt_of_cell? _ _ hw195_0; first | rwa [add_block] at this | exact this) GW198.out))) _).trans (((cell_far (p := ⟨gb198, _, none⟩) (by first | exact Nat.ne_of_lt (Nat.lt_of_lt_of_le (by have := World.block_lt_of_cell? _ _ hw195_0; first | rwa [add_block] at this | exact this) GW198.out) | (rw [add_block]; exact Nat.ne_of_lt (Nat.lt_of_lt_of_le (by have := World.block_lt_of_cell? _ _ hw195_0; first | rwa [add_block] at this | exact this) GW198.out)) | (show (Addr.add _ _).block ≠ _; rw [add_block]; exact Nat.ne_of_lt (Nat.lt_of_lt_of_le (by have := World.block_lt_of_cell? _ _ hw195_0; first | rwa [add_block] at this | exact this) GW198.out)) | (dsimp only; exact Nat.ne_of_lt (Nat.lt_of_lt_of_le (by have := World.block_lt_of_cell? _ _ hw195_0; first | rwa [add_block] at this | exact this) GW198.out))) _).trans (hHeld.1)))), ((cell_far (p := ⟨gb198, _, none⟩) (by first | exact Nat.ne_of_lt (Nat.lt_of_lt_of_le (by have := World.block_lt_of_cell? _ _ hw195_1; first | rwa [add_block] at this | exact this) GW198.out) | (rw [add_block]; exact Nat.ne_of_lt (Nat.lt_of_lt_of_le (by have := World.block_lt_of_cell? _ _ hw195_1; first | rwa [add_block] at this | exact this) GW198.out)) | (show (Addr.add _ _).block ≠ _; rw [add_block]; exact Nat.ne_of_lt (Nat.lt_of_lt_of_le (by have := World.block_lt_of_cell? _ _ hw195_1; first | rwa [add_block] at this | exact this) GW198.out)) | (dsimp only; exact Nat.ne_of_lt (Nat.lt_of_lt_of_le (by have := World.block_lt_of_cell? _ _ hw195_1; first | rwa [add_block] at this | exact this) GW198.out))) _).trans (((cell_far (p := ⟨gb198, _, none⟩) (by first | exact Nat.ne_of_lt (Nat.lt_of_lt_of_le (by have := World.block_lt_of_cell? _ _ hw195_1; first | rwa [add_block] at this | exact this) GW198.out) | (rw [add_block]; exact Nat.ne_of_lt (Nat.lt_of_lt_of_le (by have := World.block_lt_of_cell? _ _ hw195_1; first | rwa [add_block] at this | exact this) GW198.out)) | (show (Addr.add _ _).block ≠ _; rw [add_block]; exact Nat.ne_of_lt (Nat.lt_of_lt_of_le (by have := World.block_lt_of_cell? _ _ hw195_1; first | rwa [add_block] at this | exact this) GW198.out)) | (dsimp only; exact Nat.ne_of_lt (Nat.lt_of_lt_of_le (by have := World.block_lt_of_cell? _ _ hw195_1; first | rwa [add_block] at this | exact this) GW198.out))) _).trans (hHeld.2.1)))), ((cell_far (p := ⟨gb198, _, none⟩) (by first | exact Nat.ne_of_lt (Nat.lt_of_lt_of_le (by have := World.block_lt_of_cell? _ _ hw196_0; first | rwa [add_block] at this | exact this) GW198.out) | (rw [add_block]; exact Nat.ne_of_lt (Nat.lt_of_lt_of_le (by have := World.block_lt_of_cell? _ _ hw196_0; first | rwa [add_block] at this | exact this) GW198.out)) | (show (Addr.add _ _).block ≠ _; rw [add_block]; exact Nat.ne_of_lt (Nat.lt_of_lt_of_le (by have := World.block_lt_of_cell? _ _ hw196_0; first | rwa [add_block] at this | exact this) GW198.out)) | (dsimp only; exact Nat.ne_of_lt (Nat.lt_of_lt_of_le (by have := World.block_lt_of_cell? _ _ hw196_0; first | rwa [add_block] at this | exact this) GW198.out))) _).trans (((cell_far (p := ⟨gb198, _, none⟩) (by first | exact Nat.ne_of_lt (Nat.lt_of_lt_of_le (by have := World.block_lt_of_cell? _ _ hw196_0; first | rwa [add_block] at this | exact this) GW198.out) | (rw [add_block]; exact Nat.ne_of_lt (Nat.lt_of_lt_of_le (by have := World.block_lt_of_cell? _ _ hw196_0; first | rwa [add_block] at this | exact this) GW198.out)) | (show (Addr.add _ _).block ≠ _; rw [add_block]; exact Nat.ne_of_lt (Nat.lt_of_lt_of_le (by have := World.block_lt_of_cell? _ _ hw196_0; first | rwa [add_block] at this | exact this) GW198.out)) | (dsimp only; exact Nat.ne_of_lt (Nat.lt_of_lt_of_le (by have := World.block_lt_of_cell? _ _ hw196_0; first | rwa [add_block] at this | exact this) GW198.out))) _).trans (hHeld.2.2.1)))), ((cell_far (p := ⟨gb198, _, none⟩) (by first | exact Nat.ne_of_lt (Nat.lt_of_lt_of_le (by have := World.block_lt_of_cell? _ _ hw196_1; first | rwa [add_block] at this | exact this) GW198.out) | (rw [add_block]; exact Nat.ne_of_lt (Nat.lt_of_lt_of_le (by have := World.block_lt_of_cell? _ _ hw196_1; first | rwa [add_block] at this | exact this) GW198.out)) | (show (Addr.add _ _).block ≠ _; rw [add_block]; exact Nat.ne_of_lt (Nat.lt_of_lt_of_le (by have := World.block_lt_of_cell? _ _ hw196_1; first | rwa [add_block] at this | exact this) GW198.out)) | (dsimp only; exact Nat.ne_of_lt (Nat.lt_of_lt_of_le (by have := World.block_lt_of_cell? _ _ hw196_1; first | rwa [add_block] at this | exact this) GW198.out))) _).trans (((cell_far (p := ⟨gb198, _, none⟩) (by first | exact Nat.ne_of_lt (Nat.lt_of_lt_of_le (by have := World.block_lt_of_cell? _ _ hw196_1; first | rwa [add_block] at this | exact this) GW198.out) | (rw [add_block]; exact Nat.ne_of_lt (Nat.lt_of_lt_of_le (by have := World.block_lt_of_cell? _ _ hw196_1; first | rwa [add_block] at this | exact this) GW198.out)) | (show (Addr.add _ _).block ≠ _; rw [add_block]; exact Nat.ne_of_lt (Nat.lt_of_lt_of_le (by have := World.block_lt_of_cell? _ _ hw196_1; first | rwa [add_block] at this | exact this) GW198.out)) | (dsimp only; exact Nat.ne_of_lt (Nat.lt_of_lt_of_le (by have := World.block_lt_of_cell? _ _ hw196_1; first | rwa [add_block] at this | exact this) GW198.out))) _).trans (hHeld.2.2.2))))⟩ (fun hHeld => ?_)
            clear hK K
            refine done_ (done_of HT_.out (by kernel_rfl)) ?_
            go_upto_if 26 with (fail)
            go_cut [] (fun wc => ∃ (kq : Nat) (x199000_6 : Int) (x199001_6 : Int), Aside0 (limnerref03_Winds.j1 kq l0 x5_1 x6_1 a1_0 a1_1 ((rd_T28 l0 x6_1).f0) ((rd_T28 l0 x6_1).f1) x199000_6 x199001_6 = some r) ∧ Aside0 (kq ≤ k1) ∧ Aside0 (wc.heap[gb194]? = some (.cells #[.int .i64 a1_0, .int .i64 a1_1] 28 (0, 0))) ∧ Aside0 (wc.heap[gb197]? = some (.cells #[.int .i64 ((rd_T28 l0 x6_1).f0), .int .i64 ((rd_T28 l0 x6_1).f1)] 28 (0, 0))) ∧ Aside0 (wc.heap[gb198]? = some (.cells #[.int .i64 x199000_6, .int .i64 x199001_6] 28 (0, 0))) ∧ Aside0 (Below w.heap.size w wc))
            case first =>
              have H := HC7.out
              clear HC7
              by_cases c16 : (wrap64 (x6_1 + 1)) < (l0.length : Int)
              · rw [if_pos c16] at H
                have c16b0 : decide ((wrap64 (x6_1 + 1)) < (l0.length : Int)) = true := decide_eq_true c16
                clear c16
                (first | rw [c16b0] | (simp only [i64_w, i32_w]; rw [c16b0]) | skip)
                obtain ⟨ji17, hji17⟩ : ∃ j_ : Int, (wrap64 (x6_1 + 1)) = j_ := ⟨_, rfl⟩
                replace H : (if 0 ≤ (ji17) then (limnerref03_Winds.j1 k1 l0 x5_1 x6_1 a1_0 a1_1 ((rd_T28 l0 x6_1).f0) ((rd_T28 l0 x6_1).f1) ((rd_T28 l0 (ji17)).f0) ((rd_T28 l0 (ji17)).f1)) else (none)) = some r := by first | (rw [hji17] at H; exact H) | (simp only [hji17] at H ⊢; exact H)
                (try rw [hji17] at c16b0)
                have hji17w : (IntKind.i64.wrap (x6_1 + 1)) = ji17 := (i64_w _).trans hji17
                by_cases c18 : 0 ≤ (ji17)
                · rw [if_pos c18] at H
                  have c18b0 : decide (0 ≤ (ji17)) = true := decide_eq_true c18
                  clear c18
                  have H' := Aside0.mk H
                  clear H
                  have p199 : 0 ≤ ((ji17) : Int) := of_decide_eq_true (by first | (with_reducible assumption) | assumption)
                  have q199 : (ji17) < (l0.length : Int) := of_decide_eq_true (by first | (with_reducible assumption) | assumption)
                  obtain ⟨ad199, e199, hx199_0, hx199_1⟩ := at_T28 HR0.out (ji17) p199 q199
                  obtain rfl : ad195 = ad199 := (by injection e199)
                  have hn199_0 : ad195.block ≠ gb197 := Nat.ne_of_lt (Nat.lt_of_lt_of_le (by have := World.block_lt_of_cell? _ _ hx199_0; first | rwa [add_block] at this | exact this) GW197.out)
                  have hn199_1 : ad195.block ≠ gb197 := Nat.ne_of_lt (Nat.lt_of_lt_of_le (by have := World.block_lt_of_cell? _ _ hx199_0; first | rwa [add_block] at this | exact this) GW197.out)
                  have hn199_2 : ad195.block ≠ gb198 := Nat.ne_of_lt (Nat.lt_of_lt_of_le (by have := World.block_lt_of_cell? _ _ hx199_0; first | rwa [add_block] at this | exact this) GW198.out)
                  have hn199_3 : ad195.block ≠ gb198 := Nat.ne_of_lt (Nat.lt_of_lt_of_le (by have := World.block_lt_of_cell? _ _ hx199_0; first | rwa [add_block] at this | exact this) GW198.out)
                  replace hx199_0 := (HB.out.cell (World.block_lt_of_cell? w _ hx199_0)).trans hx199_0
                  replace hx199_1 := (HB.out.cell (World.block_lt_of_cell? w _ hx199_1)).trans hx199_1
                  replace hx199_0 := (cell_far (p := ⟨gb197, 0, none⟩) (by first | (rw [add_block]; exact hn199_0) | (show (Addr.add _ _).block ≠ _; rw [add_block]; exact hn199_0) | exact hn199_0) (.int .i64 ((rd_T28 l0 x6_1).f0))).trans hx199_0
                  replace hx199_1 := (cell_far (p := ⟨gb197, 0, none⟩) (by first | (rw [add_block]; exact hn199_0) | (show (Addr.add _ _).block ≠ _; rw [add_block]; exact hn199_0) | exact hn199_0) (.int .i64 ((rd_T28 l0 x6_1).f0))).trans hx199_1
                  replace hx199_0 := (cell_far (p := ⟨gb197, 1, none⟩) (by first | (rw [add_block]; exact hn199_1) | (show (Addr.add _ _).block ≠ _; rw [add_block]; exact hn199_1) | exact hn199_1) (.int .i64 ((rd_T28 l0 x6_1).f1))).trans hx199_0
                  replace hx199_1 := (cell_far (p := ⟨gb197, 1, none⟩) (by first | (rw [add_block]; exact hn199_1) | (show (Addr.add _ _).block ≠ _; rw [add_block]; exact hn199_1) | exact hn199_1) (.int .i64 ((rd_T28 l0 x6_1).f1))).trans hx199_1
                  replace hx199_0 := (cell_far (p := ⟨gb198, 0, none⟩) (by first | (rw [add_block]; exact hn199_2) | (show (Addr.add _ _).block ≠ _; rw [add_block]; exact hn199_2) | exact hn199_2) (.int .i64 ((rd_T28 l0 0).f0))).trans hx199_0
                  replace hx199_1 := (cell_far (p := ⟨gb198, 0, none⟩) (by first | (rw [add_block]; exact hn199_2) | (show (Addr.add _ _).block ≠ _; rw [add_block]; exact hn199_2) | exact hn199_2) (.int .i64 ((rd_T28 l0 0).f0))).trans hx199_1
                  replace hx199_0 := (cell_far (p := ⟨gb198, 1, none⟩) (by first | (rw [add_block]; exact hn199_3) | (show (Addr.add _ _).block ≠ _; rw [add_block]; exact hn199_3) | exact hn199_3) (.int .i64 ((rd_T28 l0 0).f1))).trans hx199_0
                  replace hx199_1 := (cell_far (p := ⟨gb198, 1, none⟩) (by first | (rw [add_block]; exact hn199_3) | (show (Addr.add _ _).block ≠ _; rw [add_block]; exact hn199_3) | exact hn199_3) (.int .i64 ((rd_T28 l0 0).f1))).trans hx199_1
                  clear hn199_0
                  clear hn199_1
                  clear hn199_2
                  clear hn199_3
                  replace p199 := eq_true p199
                  replace q199 := eq_true q199
                  have hnb19 := NB198_194.out
                  have hnc19 := NB194_198.out
                  have hnb20 := NB198_197.out
                  have hnc20 := NB197_198.out
                  have hcz21_0 : w11.cell? ⟨gb198, 0, none⟩ = some (.int .i64 0) := (blk_cell BK198.out 0).trans rfl
                  have hcz21_1 : w11.cell? ⟨gb198, 1, none⟩ = some (.int .i64 0) := (blk_cell BK198.out 1).trans rfl
                  have hfz21_0 := blk_frozen BK198.out 0
                  have hfz21_1 := blk_frozen BK198.out 1
                  go_wp2
                  go_meet
                  case rel => exact ⟨_, ((rd_T28 l0 (ji17)).f0), ((rd_T28 l0 (ji17)).f1), H', ⟨by have := HK1.out; first | omega | exact Nat.le_refl _⟩, ⟨by (with_reducible repeat (first | refine blk_drewN ?_ _ | refine blk_drew ?_ | refine blk_alloc ?_ _)); refine blk_far ?_ NB194_198.out _; (with_reducible repeat (first | refine blk_drewN ?_ _ | refine blk_drew ?_ | refine blk_alloc ?_ _)); refine blk_far ?_ NB194_198.out _; (with_reducible repeat (first | refine blk_drewN ?_ _ | refine blk_drew ?_ | refine blk_alloc ?_ _)); refine blk_far ?_ NB194_198.out _; (with_reducible repeat (first | refine blk_drewN ?_ _ | refine blk_drew ?_ | refine blk_alloc ?_ _)); refine blk_far ?_ NB194_198.out _; (with_reducible repeat (first | refine blk_drewN ?_ _ | refine blk_drew ?_ | refine blk_alloc ?_ _)); refine blk_far ?_ NB194_197.out _; (with_reducible repeat (first | refine blk_drewN ?_ _ | refine blk_drew ?_ | refine blk_alloc ?_ _)); refine blk_far ?_ NB194_197.out _; (with_reducible repeat (first | refine blk_drewN ?_ _ | refine blk_drew ?_ | refine blk_alloc ?_ _)); exact BK194.out⟩, ⟨by (with_reducible repeat (first | refine blk_drewN ?_ _ | refine blk_drew ?_ | refine blk_alloc ?_ _)); refine blk_far ?_ NB197_198.out _; (with_reducible repeat (first | refine blk_drewN ?_ _ | refine blk_drew ?_ | refine blk_alloc ?_ _)); refine blk_far ?_ NB197_198.out _; (with_reducible repeat (first | refine blk_drewN ?_ _ | refine blk_drew ?_ | refine blk_alloc ?_ _)); refine blk_far ?_ NB197_198.out _; (with_reducible repeat (first | refine blk_drewN ?_ _ | refine blk_drew ?_ | refine blk_alloc ?_ _)); refine blk_far ?_ NB197_198.out _; (with_reducible repeat (first | refine blk_drewN ?_ _ | refine blk_drew ?_ | refine blk_alloc ?_ _)); refine blk_put (cs := #[.int .i64 ((rd_T28 l0 x6_1).f0), .int .i64 0]) ?_ 1 _ rfl; (with_reducible repeat (first | refine blk_drewN ?_ _ | refine blk_drew ?_ | refine blk_alloc ?_ _)); refine blk_put (cs := #[.int .i64 0, .int .i64 0]) ?_ 0 _ rfl; (with_reducible repeat (first | refine blk_drewN ?_ _ | refine blk_drew ?_ | refine blk_alloc ?_ _)); exact BK197.out⟩, ⟨by (with_reducible repeat (first | refine blk_drewN ?_ _ | refine blk_drew ?_ | refine blk_alloc ?_ _)); refine blk_put (cs := #[.int .i64 ((rd_T28 l0 (ji17)).f0), .int .i64 ((rd_T28 l0 0).f1)]) ?_ 1 _ rfl; (with_reducible repeat (first | refine blk_drewN ?_ _ | refine blk_drew ?_ | refine blk_alloc ?_ _)); refine blk_put (cs := #[.int .i64 ((rd_T28 l0 0).f0), .int .i64 ((rd_T28 l0 0).f1)]) ?_ 0 _ rfl; (with_reducible repeat (first | refine blk_drewN ?_ _ | refine blk_drew ?_ | refine blk_alloc ?_ _)); refine blk_put (cs := #[.int .i64 ((rd_T28 l0 0).f0), .int .i64 0]) ?_ 1 _ rfl; (with_reducible repeat (first | refine blk_drewN ?_ _ | refine blk_drew ?_ | refine blk_alloc ?_ _)); refine blk_put (cs := #[.int .i64 0, .int .i64 0]) ?_ 0 _ rfl; (with_reducible repeat (first | refine blk_drewN ?_ _ | refine blk_drew ?_ | refine blk_alloc ?_ _)); refine blk_far ?_ NB198_197.out _; (with_reducible repeat (first | refine blk_drewN ?_ _ | refine blk_drew ?_ | refine blk_alloc ?_ _)); refine blk_far ?_ NB198_197.out _; (with_reducible repeat (first | refine blk_drewN ?_ _ | refine blk_drew ?_ | refine blk_alloc ?_ _)); exact BK198.out⟩, ⟨by repeat (first | (with_reducible first | exact HB.out | apply below_alloc | apply pw_below_drewN | apply below_drew1 | refine below_set ?_ GE194.out | refine below_set ?_ GE197.out | refine below_set ?_ GE198.out) | exact HB.out)⟩⟩
                · rw [if_neg c18] at H
                  exact absurd H (by simp)
              · rw [if_neg c16] at H
                have c16b0 : decide ((wrap64 (x6_1 + 1)) < (l0.length : Int)) = false := decide_eq_false c16
                clear c16
                (first | rw [c16b0] | (simp only [i64_w, i32_w]; rw [c16b0]) | skip)
                have H' := Aside0.mk H
                clear H
                go_wp2
                go_meet
                case rel => exact ⟨_, ((rd_T28 l0 0).f0), ((rd_T28 l0 0).f1), H', ⟨by have := HK1.out; first | omega | exact Nat.le_refl _⟩, ⟨by (with_reducible repeat (first | refine blk_drewN ?_ _ | refine blk_drew ?_ | refine blk_alloc ?_ _)); refine blk_far ?_ NB194_198.out _; (with_reducible repeat (first | refine blk_drewN ?_ _ | refine blk_drew ?_ | refine blk_alloc ?_ _)); refine blk_far ?_ NB194_198.out _; (with_reducible repeat (first | refine blk_drewN ?_ _ | refine blk_drew ?_ | refine blk_alloc ?_ _)); refine blk_far ?_ NB194_197.out _; (with_reducible repeat (first | refine blk_drewN ?_ _ | refine blk_drew ?_ | refine blk_alloc ?_ _)); refine blk_far ?_ NB194_197.out _; (with_reducible repeat (first | refine blk_drewN ?_ _ | refine blk_drew ?_ | refine blk_alloc ?_ _)); exact BK194.out⟩, ⟨by (with_reducible repeat (first | refine blk_drewN ?_ _ | refine blk_drew ?_ | refine blk_alloc ?_ _)); refine blk_far ?_ NB197_198.out _; (with_reducible repeat (first | refine blk_drewN ?_ _ | refine blk_drew ?_ | refine blk_alloc ?_ _)); refine blk_far ?_ NB197_198.out _; (with_reducible repeat (first | refine blk_drewN ?_ _ | refine blk_drew ?_ | refine blk_alloc ?_ _)); refine blk_put (cs := #[.int .i64 ((rd_T28 l0 x6_1).f0), .int .i64 0]) ?_ 1 _ rfl; (with_reducible repeat (first | refine blk_drewN ?_ _ | refine blk_drew ?_ | refine blk_alloc ?_ _)); refine blk_put (cs := #[.int .i64 0, .int .i64 0]) ?_ 0 _ rfl; (with_reducible repeat (first | refine blk_drewN ?_ _ | refine blk_drew ?_ | refine blk_alloc ?_ _)); exact BK197.out⟩, ⟨by (with_reducible repeat (first | refine blk_drewN ?_ _ | refine blk_drew ?_ | refine blk_alloc ?_ _)); refine blk_put (cs := #[.int .i64 ((rd_T28 l0 0).f0), .int .i64 0]) ?_ 1 _ rfl; (with_reducible repeat (first | refine blk_drewN ?_ _ | refine blk_drew ?_ | refine blk_alloc ?_ _)); refine blk_put (cs := #[.int .i64 0, .int .i64 0]) ?_ 0 _ rfl; (with_reducible repeat (first | refine blk_drewN ?_ _ | refine blk_drew ?_ | refine blk_alloc ?_ _)); refine blk_far ?_ NB198_197.out _; (with_reducible repeat (first | refine blk_drewN ?_ _ | refine blk_drew ?_ | refine blk_alloc ?_ _)); refine blk_far ?_ NB198_197.out _; (with_reducible repeat (first | refine blk_drewN ?_ _ | refine blk_drew ?_ | refine blk_alloc ?_ _)); exact BK198.out⟩, ⟨by repeat (first | (with_reducible first | exact HB.out | apply below_alloc | apply pw_below_drewN | apply below_drew1 | refine below_set ?_ GE194.out | refine below_set ?_ GE197.out | refine below_set ?_ GE198.out) | exact HB.out)⟩⟩
            case rest =>
              clear HC7
              try clear c1
              try clear p1
              try clear q1
              try clear hx1
              try clear qi1
              try clear c2
              try clear p2
              try clear c4
              try clear c4b0
              try clear c5
              try clear c5b0
              try clear c6
              try clear c6b0
              try clear c6b1
              try clear p6
              try clear c13
              try clear c16
              try clear c16b0
              try clear c18
              try clear c18b0
              try clear c19
              try clear p19
              try clear q19
              try clear hx19
              try clear qi19
              try clear c20
              try clear hcz21_0
              try clear hcz21_1
              try clear hfz21_0
              try clear hfz21_1
              try clear hx195_0
              try clear hx195_1
              try clear hx196_0
              try clear hx196_1
              try clear hx199_0
              try clear hx199_1
              try clear p195
              try clear p196
              try clear p199
              try clear p2
              try clear q195
              try clear q196
              try clear q199
              obtain ⟨kq, x199000_6, x199001_6, HA, HJ6, BK194, BK197, BK198, HB⟩ := hcut
              cases kq with
              | zero => exact absurd HA.out (by simp [limnerref03_Winds.j1])
              | succ kj6 =>
                have H := HA.out
                clear HA
                simp only [limnerref03_Winds.j1] at H
                have HC22 := Aside0.mk H
                clear H
                go_upto_region 8 with (fail)
                go_cut [50] (fun v50 wc => ∃ (kq : Nat) (x50_21 : Bool), v50 = .bool x50_21 ∧ Aside0 (limnerref03_Winds.j2 kq l0 x5_1 x6_1 x50_21 a1_0 a1_1 ((rd_T28 l0 x6_1).f0) ((rd_T28 l0 x6_1).f1) x199000_6 x199001_6 = some r) ∧ Aside0 (kq ≤ kj6) ∧ Aside0 (wc.heap[gb194]? = some (.cells #[.int .i64 a1_0, .int .i64 a1_1] 28 (0, 0))) ∧ Aside0 (wc.heap[gb197]? = some (.cells #[.int .i64 ((rd_T28 l0 x6_1).f0), .int .i64 ((rd_T28 l0 x6_1).f1)] 28 (0, 0))) ∧ Aside0 (wc.heap[gb198]? = some (.cells #[.int .i64 x199000_6, .int .i64 x199001_6] 28 (0, 0))) ∧ Aside0 (Below w.heap.size w wc))
                case first =>
                  have H := HC22.out
                  clear HC22
                  by_cases c23 : ((rd_T28 l0 x6_1).f1) ≤ a1_1
                  · rw [if_pos c23] at H
                    have c23b0 : decide (((rd_T28 l0 x6_1).f1) ≤ a1_1) = true := decide_eq_true c23
                    clear c23
                    (first | rw [c23b0] | (simp only [i64_w, i32_w]; rw [c23b0]) | skip)
                    by_cases c24 : a1_1 < x199001_6
                    · rw [if_pos c24] at H
                      have c24b0 : decide (a1_1 < x199001_6) = true := decide_eq_true c24
                      clear c24
                      replace H := Option.bind_eq_some_iff.mp H
                      obtain ⟨t200, A250, H⟩ := H
                      replace H : (limnerref03_Winds.j2 kj6 l0 x5_1 x6_1 (decide (t200 > 0)) a1_0 a1_1 ((rd_T28 l0 x6_1).f0) ((rd_T28 l0 x6_1).f1) x199000_6 x199001_6) = some r := H
                      have A25 := Aside0.mk A250
                      clear A250
                      have H' := Aside0.mk H
                      clear H
                      have hnb26 := NB197_194.out
                      have hnc26 := NB194_197.out
                      have hnb27 := NB197_198.out
                      have hnc27 := NB198_197.out
                      have hcz28_0 : wc.cell? ⟨gb197, 0, none⟩ = some (.int .i64 ((rd_T28 l0 x6_1).f0)) := (blk_cell BK197.out 0).trans rfl
                      have hcz28_1 : wc.cell? ⟨gb197, 1, none⟩ = some (.int .i64 ((rd_T28 l0 x6_1).f1)) := (blk_cell BK197.out 1).trans rfl
                      have hfz28_0 := blk_frozen BK197.out 0
                      have hfz28_1 := blk_frozen BK197.out 1
                      have hnb29 := NB194_198.out
                      have hnc29 := NB198_194.out
                      have hcz30_0 : wc.cell? ⟨gb194, 0, none⟩ = some (.int .i64 a1_0) := (blk_cell BK194.out 0).trans rfl
                      have hcz30_1 : wc.cell? ⟨gb194, 1, none⟩ = some (.int .i64 a1_1) := (blk_cell BK194.out 1).trans rfl
                      have hfz30_0 := blk_frozen BK194.out 0
                      have hfz30_1 := blk_frozen BK194.out 1
                      have hcz31_0 : wc.cell? ⟨gb198, 0, none⟩ = some (.int .i64 x199000_6) := (blk_cell BK198.out 0).trans rfl
                      have hcz31_1 : wc.cell? ⟨gb198, 1, none⟩ = some (.int .i64 x199001_6) := (blk_cell BK198.out 1).trans rfl
                      have hfz31_0 := blk_frozen BK198.out 0
                      have hfz31_1 := blk_frozen BK198.out 1
                      go_wp2_with (first | (go_at_call 18; (with_reducible refine (limnerref03_Side.calls kj6 ((rd_T28 l0 x6_1).f0) ((rd_T28 l0 x6_1).f1) x199000_6 x199001_6 a1_0 a1_1 t200 _ A25.out).mono ?_); rintro e w32 ⟨rfl, hb⟩; have n0_ := Aside0.mk (blk_below (g := gb194) (o := .cells #[.int .i64 a1_0, .int .i64 a1_1] 28 (0, 0)) (by (with_reducible repeat (first | refine blk_drewN ?_ _ | refine blk_drew ?_ | refine blk_alloc ?_ _)); exact BK194.out) hb); have n1_ := Aside0.mk (blk_below (g := gb197) (o := .cells #[.int .i64 ((rd_T28 l0 x6_1).f0), .int .i64 ((rd_T28 l0 x6_1).f1)] 28 (0, 0)) (by (with_reducible repeat (first | refine blk_drewN ?_ _ | refine blk_drew ?_ | refine blk_alloc ?_ _)); exact BK197.out) hb); have n2_ := Aside0.mk (blk_below (g := gb198) (o := .cells #[.int .i64 x199000_6, .int .i64 x199001_6] 28 (0, 0)) (by (with_reducible repeat (first | refine blk_drewN ?_ _ | refine blk_drew ?_ | refine blk_alloc ?_ _)); exact BK198.out) hb); have n3_ := Aside0.mk (below_step (by repeat (first | (with_reducible first | exact HB.out | apply below_alloc | apply pw_below_drewN | apply below_drew1 | refine below_set ?_ GE194.out | refine below_set ?_ GE197.out | refine below_set ?_ GE198.out) | exact HB.out)) hb); clear BK194; clear BK197; clear BK198; clear HB; have BK194 := n0_; have BK197 := n1_; have BK198 := n2_; have HB := n3_; clear n0_ n1_ n2_ n3_; (try clear hb); (try clear hb2); (try clear hk); (try clear hi)))
                      go_meet
                      case rel => exact ⟨_, (decide (t200 > 0)), (by first | rfl | (simp; done) | (simp [*]; done)), H', ⟨by have := HK1.out; have := HJ6.out; first | omega | exact Nat.le_refl _⟩, ⟨by (with_reducible repeat (first | refine blk_drewN ?_ _ | refine blk_drew ?_ | refine blk_alloc ?_ _)); exact BK194.out⟩, ⟨by (with_reducible repeat (first | refine blk_drewN ?_ _ | refine blk_drew ?_ | refine blk_alloc ?_ _)); exact BK197.out⟩, ⟨by (with_reducible repeat (first | refine blk_drewN ?_ _ | refine blk_drew ?_ | refine blk_alloc ?_ _)); exact BK198.out⟩, ⟨by repeat (first | (with_reducible first | exact HB.out | apply below_alloc | apply pw_below_drewN | apply below_drew1 | refine below_set ?_ GE194.out | refine below_set ?_ GE197.out | refine below_set ?_ GE198.out) | exact HB.out)⟩⟩
                    · rw [if_neg c24] at H
                      have c24b0 : decide (a1_1 < x199001_6) = false := decide_eq_false c24
                      clear c24
                      have H' := Aside0.mk H
                      clear H
                      have hnb33 := NB197_194.out
                      have hnc33 := NB194_197.out
                      have hnb34 := NB197_198.out
                      have hnc34 := NB198_197.out
                      have hcz35_0 : wc.cell? ⟨gb197, 0, none⟩ = some (.int .i64 ((rd_T28 l0 x6_1).f0)) := (blk_cell BK197.out 0).trans rfl
                      have hcz35_1 : wc.cell? ⟨gb197, 1, none⟩ = some (.int .i64 ((rd_T28 l0 x6_1).f1)) := (blk_cell BK197.out 1).trans rfl
                      have hfz35_0 := blk_frozen BK197.out 0
                      have hfz35_1 := blk_frozen BK197.out 1
                      have hnb36 := NB194_198.out
                      have hnc36 := NB198_194.out
                      have hcz37_0 : wc.cell? ⟨gb194, 0, none⟩ = some (.int .i64 a1_0) := (blk_cell BK194.out 0).trans rfl
                      have hcz37_1 : wc.cell? ⟨gb194, 1, none⟩ = some (.int .i64 a1_1) := (blk_cell BK194.out 1).trans rfl
                      have hfz37_0 := blk_frozen BK194.out 0
                      have hfz37_1 := blk_frozen BK194.out 1
                      have hcz38_0 : wc.cell? ⟨gb198, 0, none⟩ = some (.int .i64 x199000_6) := (blk_cell BK198.out 0).trans rfl
                      have hcz38_1 : wc.cell? ⟨gb198, 1, none⟩ = some (.int .i64 x199001_6) := (blk_cell BK198.out 1).trans rfl
                      have hfz38_0 := blk_frozen BK198.out 0
                      have hfz38_1 := blk_frozen BK198.out 1
                      go_wp2
                      go_meet
                      case rel => exact ⟨_, (false), (by first | rfl | (simp; done) | (simp [*]; done)), H', ⟨by have := HK1.out; have := HJ6.out; first | omega | exact Nat.le_refl _⟩, ⟨by (with_reducible repeat (first | refine blk_drewN ?_ _ | refine blk_drew ?_ | refine blk_alloc ?_ _)); exact BK194.out⟩, ⟨by (with_reducible repeat (first | refine blk_drewN ?_ _ | refine blk_drew ?_ | refine blk_alloc ?_ _)); exact BK197.out⟩, ⟨by (with_reducible repeat (first | refine blk_drewN ?_ _ | refine blk_drew ?_ | refine blk_alloc ?_ _)); exact BK198.out⟩, ⟨by repeat (first | (with_reducible first | exact HB.out | apply below_alloc | apply pw_below_drewN | apply below_drew1 | refine below_set ?_ GE194.out | refine below_set ?_ GE197.out | refine below_set ?_ GE198.out) | exact HB.out)⟩⟩
                  · rw [if_neg c23] at H
                    have c23b0 : decide (((rd_T28 l0 x6_1).f1) ≤ a1_1) = false := decide_eq_false c23
                    clear c23
                    (first | rw [c23b0] | (simp only [i64_w, i32_w]; rw [c23b0]) | skip)
                    have H' := Aside0.mk H
                    clear H
                    have hnb39 := NB197_194.out
                    have hnc39 := NB194_197.out
                    have hnb40 := NB197_198.out
                    have hnc40 := NB198_197.out
                    have hcz41_0 : wc.cell? ⟨gb197, 0, none⟩ = some (.int .i64 ((rd_T28 l0 x6_1).f0)) := (blk_cell BK197.out 0).trans rfl
                    have hcz41_1 : wc.cell? ⟨gb197, 1, none⟩ = some (.int .i64 ((rd_T28 l0 x6_1).f1)) := (blk_cell BK197.out 1).trans rfl
                    have hfz41_0 := blk_frozen BK197.out 0
                    have hfz41_1 := blk_frozen BK197.out 1
                    have hnb42 := NB194_198.out
                    have hnc42 := NB198_194.out
                    have hcz43_0 : wc.cell? ⟨gb194, 0, none⟩ = some (.int .i64 a1_0) := (blk_cell BK194.out 0).trans rfl
                    have hcz43_1 : wc.cell? ⟨gb194, 1, none⟩ = some (.int .i64 a1_1) := (blk_cell BK194.out 1).trans rfl
                    have hfz43_0 := blk_frozen BK194.out 0
                    have hfz43_1 := blk_frozen BK194.out 1
                    go_wp2
                    go_meet
                    case rel => exact ⟨_, (false), (by first | rfl | (simp; done) | (simp [*]; done)), H', ⟨by have := HK1.out; have := HJ6.out; first | omega | exact Nat.le_refl _⟩, ⟨by (with_reducible repeat (first | refine blk_drewN ?_ _ | refine blk_drew ?_ | refine blk_alloc ?_ _)); exact BK194.out⟩, ⟨by (with_reducible repeat (first | refine blk_drewN ?_ _ | refine blk_drew ?_ | refine blk_alloc ?_ _)); exact BK197.out⟩, ⟨by (with_reducible repeat (first | refine blk_drewN ?_ _ | refine blk_drew ?_ | refine blk_alloc ?_ _)); exact BK198.out⟩, ⟨by repeat (first | (with_reducible first | exact HB.out | apply below_alloc | apply pw_below_drewN | apply below_drew1 | refine below_set ?_ GE194.out | refine below_set ?_ GE197.out | refine below_set ?_ GE198.out) | exact HB.out)⟩⟩
                case rest =>
                  clear HC22
                  try clear c1
                  try clear p1
                  try clear q1
                  try clear hx1
                  try clear qi1
                  try clear c2
                  try clear p2
                  try clear c3
                  try clear c4
                  try clear c4b0
                  try clear c5
                  try clear c5b0
                  try clear c6
                  try clear c6b0
                  try clear c6b1
                  try clear p6
                  try clear c13
                  try clear c16
                  try clear c16b0
                  try clear c18
                  try clear c18b0
                  try clear c19
                  try clear p19
                  try clear q19
                  try clear hx19
                  try clear qi19
                  try clear c20
                  try clear c23
                  try clear c23b0
                  try clear c24
                  try clear c24b0
                  try clear c26
                  try clear c27
                  try clear c29
                  try clear c33
                  try clear c34
                  try clear c36
                  try clear c39
                  try clear c40
                  try clear c42
                  try clear hcz21_0
                  try clear hcz21_1
                  try clear hcz28_0
                  try clear hcz28_1
                  try clear hcz30_0
                  try clear hcz30_1
                  try clear hcz31_0
                  try clear hcz31_1
                  try clear hcz35_0
                  try clear hcz35_1
                  try clear hcz37_0
                  try clear hcz37_1
                  try clear hcz38_0
                  try clear hcz38_1
                  try clear hcz41_0
                  try clear hcz41_1
                  try clear hcz43_0
                  try clear hcz43_1
                  try clear hfz21_0
                  try clear hfz21_1
                  try clear hfz28_0
                  try clear hfz28_1
                  try clear hfz30_0
                  try clear hfz30_1
                  try clear hfz31_0
                  try clear hfz31_1
                  try clear hfz35_0
                  try clear hfz35_1
                  try clear hfz37_0
                  try clear hfz37_1
                  try clear hfz38_0
                  try clear hfz38_1
                  try clear hfz41_0
                  try clear hfz41_1
                  try clear hfz43_0
                  try clear hfz43_1
                  try clear hx195_0
                  try clear hx195_1
                  try clear hx196_0
                  try clear hx196_1
                  try clear hx199_0
                  try clear hx199_1
                  try clear p1
                  try clear p19
                  try clear p195
                  try clear p196
                  try clear p199
                  try clear p2
                  try clear p6
                  try clear q1
                  try clear q19
                  try clear q195
                  try clear q196
                  try clear q199
                  obtain ⟨kq, x50_21, rfl, HA, HJ21, BK194, BK197, BK198, HB⟩ := hcut
                  cases kq with
                  | zero => exact absurd HA.out (by simp [limnerref03_Winds.j2])
                  | succ kj21 =>
                    have H := HA.out
                    clear HA
                    simp only [limnerref03_Winds.j2] at H
                    by_cases c44 : x50_21 = true
                    · subst c44
                      have H1 : (if x199001_6 ≤ a1_1 then (if a1_1 < ((rd_T28 l0 x6_1).f1) then ((limnerref03_Side.f kj21 ((rd_T28 l0 x6_1).f0) ((rd_T28 l0 x6_1).f1) x199000_6 x199001_6 a1_0 a1_1).bind fun t201 => (if t201 < 0 then (limnerref03_Winds.l0 kj21 l0 (wrap64 ((wrap64 (x5_1 + 1)) - 1)) (wrap64 (x6_1 + 1)) a1_0 a1_1) else (limnerref03_Winds.l0 kj21 l0 (wrap64 (x5_1 + 1)) (wrap64 (x6_1 + 1)) a1_0 a1_1))) else (limnerref03_Winds.l0 kj21 l0 (wrap64 (x5_1 + 1)) (wrap64 (x6_1 + 1)) a1_0 a1_1)) else (limnerref03_Winds.l0 kj21 l0 (wrap64 (x5_1 + 1)) (wrap64 (x6_1 + 1)) a1_0 a1_1)) = some r := by rw [if_pos rfl] at H; exact H
                      clear H
                      have H := H1
                      clear H1
                      by_cases c45 : x199001_6 ≤ a1_1
                      · rw [if_pos c45] at H
                        have c45b0 : decide (x199001_6 ≤ a1_1) = true := decide_eq_true c45
                        clear c45
                        by_cases c46 : a1_1 < ((rd_T28 l0 x6_1).f1)
                        · rw [if_pos c46] at H
                          have c46b0 : decide (a1_1 < ((rd_T28 l0 x6_1).f1)) = true := decide_eq_true c46
                          clear c46
                          replace H := Option.bind_eq_some_iff.mp H
                          obtain ⟨t201, A470, H⟩ := H
                          replace H : (if t201 < 0 then (limnerref03_Winds.l0 kj21 l0 (wrap64 ((wrap64 (x5_1 + 1)) - 1)) (wrap64 (x6_1 + 1)) a1_0 a1_1) else (limnerref03_Winds.l0 kj21 l0 (wrap64 (x5_1 + 1)) (wrap64 (x6_1 + 1)) a1_0 a1_1)) = some r := H
                          have A47 := Aside0.mk A470
                          clear A470
                          by_cases c48 : t201 < 0
                          · rw [if_pos c48] at H
                            have c48b0 : decide (t201 < 0) = true := decide_eq_true c48
                            clear c48
                            have H' := Aside0.mk H
                            clear H
                            have hnb49 := NB198_194.out
                            have hnc49 := NB194_198.out
                            have hnb50 := NB198_197.out
                            have hnc50 := NB197_198.out
                            have hcz51_0 : wc.cell? ⟨gb198, 0, none⟩ = some (.int .i64 x199000_6) := (blk_cell BK198.out 0).trans rfl
                            have hcz51_1 : wc.cell? ⟨gb198, 1, none⟩ = some (.int .i64 x199001_6) := (blk_cell BK198.out 1).trans rfl
                            have hfz51_0 := blk_frozen BK198.out 0
                            have hfz51_1 := blk_frozen BK198.out 1
                            have hnb52 := NB194_197.out
                            have hnc52 := NB197_194.out
                            have hcz53_0 : wc.cell? ⟨gb194, 0, none⟩ = some (.int .i64 a1_0) := (blk_cell BK194.out 0).trans rfl
                            have hcz53_1 : wc.cell? ⟨gb194, 1, none⟩ = some (.int .i64 a1_1) := (blk_cell BK194.out 1).trans rfl
                            have hfz53_0 := blk_frozen BK194.out 0
                            have hfz53_1 := blk_frozen BK194.out 1
                            have hcz54_0 : wc.cell? ⟨gb197, 0, none⟩ = some (.int .i64 ((rd_T28 l0 x6_1).f0)) := (blk_cell BK197.out 0).trans rfl
                            have hcz54_1 : wc.cell? ⟨gb197, 1, none⟩ = some (.int .i64 ((rd_T28 l0 x6_1).f1)) := (blk_cell BK197.out 1).trans rfl
                            have hfz54_0 := blk_frozen BK197.out 0
                            have hfz54_1 := blk_frozen BK197.out 1
                            go_wp2_with (first | (go_at_call 18; (with_reducible refine (limnerref03_Side.calls kj21 ((rd_T28 l0 x6_1).f0) ((rd_T28 l0 x6_1).f1) x199000_6 x199001_6 a1_0 a1_1 t201 _ A47.out).mono ?_); rintro e w55 ⟨rfl, hb⟩; have n0_ := Aside0.mk (blk_below (g := gb194) (o := .cells #[.int .i64 a1_0, .int .i64 a1_1] 28 (0, 0)) (by (with_reducible repeat (first | refine blk_drewN ?_ _ | refine blk_drew ?_ | refine blk_alloc ?_ _)); exact BK194.out) hb); have n1_ := Aside0.mk (blk_below (g := gb197) (o := .cells #[.int .i64 ((rd_T28 l0 x6_1).f0), .int .i64 ((rd_T28 l0 x6_1).f1)] 28 (0, 0)) (by (with_reducible repeat (first | refine blk_drewN ?_ _ | refine blk_drew ?_ | refine blk_alloc ?_ _)); exact BK197.out) hb); have n2_ := Aside0.mk (blk_below (g := gb198) (o := .cells #[.int .i64 x199000_6, .int .i64 x199001_6] 28 (0, 0)) (by (with_reducible repeat (first | refine blk_drewN ?_ _ | refine blk_drew ?_ | refine blk_alloc ?_ _)); exact BK198.out) hb); have n3_ := Aside0.mk (below_step (by repeat (first | (with_reducible first | exact HB.out | apply below_alloc | apply pw_below_drewN | apply below_drew1 | refine below_set ?_ GE194.out | refine below_set ?_ GE197.out | refine below_set ?_ GE198.out) | exact HB.out)) hb); clear BK194; clear BK197; clear BK198; clear HB; have BK194 := n0_; have BK197 := n1_; have BK198 := n2_; have HB := n3_; clear n0_ n1_ n2_ n3_; (try clear hb); (try clear hb2); (try clear hk); (try clear hi)))
                            go_roundg kj21
                            case measure => have := HK1.out; have := HJ6.out; have := HJ21.out; omega
                            case rel => exact ⟨(wrap64 ((wrap64 (x5_1 + 1)) - 1)), (wrap64 (x6_1 + 1)), (by first | rfl | (simp; done) | (simp [*]; done)), (by first | rfl | (simp; done) | (simp [*]; done)), H', ⟨by have := HK1.out; have := HJ6.out; have := HJ21.out; omega⟩, ⟨by (with_reducible repeat (first | refine blk_drewN ?_ _ | refine blk_drew ?_ | refine blk_alloc ?_ _)); exact BK194.out⟩, ⟨by repeat (first | (with_reducible first | exact HB.out | apply below_alloc | apply pw_below_drewN | apply below_drew1 | refine below_set ?_ GE194.out | refine below_set ?_ GE197.out | refine below_set ?_ GE198.out) | exact HB.out)⟩⟩
                          · rw [if_neg c48] at H
                            have c48b0 : decide (t201 < 0) = false := decide_eq_false c48
                            clear c48
                            have H' := Aside0.mk H
                            clear H
                            have hnb56 := NB198_194.out
                            have hnc56 := NB194_198.out
                            have hnb57 := NB198_197.out
                            have hnc57 := NB197_198.out
                            have hcz58_0 : wc.cell? ⟨gb198, 0, none⟩ = some (.int .i64 x199000_6) := (blk_cell BK198.out 0).trans rfl
                            have hcz58_1 : wc.cell? ⟨gb198, 1, none⟩ = some (.int .i64 x199001_6) := (blk_cell BK198.out 1).trans rfl
                            have hfz58_0 := blk_frozen BK198.out 0
                            have hfz58_1 := blk_frozen BK198.out 1
                            have hnb59 := NB194_197.out
                            have hnc59 := NB197_194.out
                            have hcz60_0 : wc.cell? ⟨gb194, 0, none⟩ = some (.int .i64 a1_0) := (blk_cell BK194.out 0).trans rfl
                            have hcz60_1 : wc.cell? ⟨gb194, 1, none⟩ = some (.int .i64 a1_1) := (blk_cell BK194.out 1).trans rfl
                            have hfz60_0 := blk_frozen BK194.out 0
                            have hfz60_1 := blk_frozen BK194.out 1
                            have hcz61_0 : wc.cell? ⟨gb197, 0, none⟩ = some (.int .i64 ((rd_T28 l0 x6_1).f0)) := (blk_cell BK197.out 0).trans rfl
                            have hcz61_1 : wc.cell? ⟨gb197, 1, none⟩ = some (.int .i64 ((rd_T28 l0 x6_1).f1)) := (blk_cell BK197.out 1).trans rfl
                            have hfz61_0 := blk_frozen BK197.out 0
                            have hfz61_1 := blk_frozen BK197.out 1
                            go_wp2_with (first | (go_at_call 18; (with_reducible refine (limnerref03_Side.calls kj21 ((rd_T28 l0 x6_1).f0) ((rd_T28 l0 x6_1).f1) x199000_6 x199001_6 a1_0 a1_1 t201 _ A47.out).mono ?_); rintro e w62 ⟨rfl, hb⟩; have n0_ := Aside0.mk (blk_below (g := gb194) (o := .cells #[.int .i64 a1_0, .int .i64 a1_1] 28 (0, 0)) (by (with_reducible repeat (first | refine blk_drewN ?_ _ | refine blk_drew ?_ | refine blk_alloc ?_ _)); exact BK194.out) hb); have n1_ := Aside0.mk (blk_below (g := gb197) (o := .cells #[.int .i64 ((rd_T28 l0 x6_1).f0), .int .i64 ((rd_T28 l0 x6_1).f1)] 28 (0, 0)) (by (with_reducible repeat (first | refine blk_drewN ?_ _ | refine blk_drew ?_ | refine blk_alloc ?_ _)); exact BK197.out) hb); have n2_ := Aside0.mk (blk_below (g := gb198) (o := .cells #[.int .i64 x199000_6, .int .i64 x199001_6] 28 (0, 0)) (by (with_reducible repeat (first | refine blk_drewN ?_ _ | refine blk_drew ?_ | refine blk_alloc ?_ _)); exact BK198.out) hb); have n3_ := Aside0.mk (below_step (by repeat (first | (with_reducible first | exact HB.out | apply below_alloc | apply pw_below_drewN | apply below_drew1 | refine below_set ?_ GE194.out | refine below_set ?_ GE197.out | refine below_set ?_ GE198.out) | exact HB.out)) hb); clear BK194; clear BK197; clear BK198; clear HB; have BK194 := n0_; have BK197 := n1_; have BK198 := n2_; have HB := n3_; clear n0_ n1_ n2_ n3_; (try clear hb); (try clear hb2); (try clear hk); (try clear hi)))
                            go_roundg kj21
                            case measure => have := HK1.out; have := HJ6.out; have := HJ21.out; omega
                            case rel => exact ⟨(wrap64 (x5_1 + 1)), (wrap64 (x6_1 + 1)), (by first | rfl | (simp; done) | (simp [*]; done)), (by first | rfl | (simp; done) | (simp [*]; done)), H', ⟨by have := HK1.out; have := HJ6.out; have := HJ21.out; omega⟩, ⟨by (with_reducible repeat (first | refine blk_drewN ?_ _ | refine blk_drew ?_ | refine blk_alloc ?_ _)); exact BK194.out⟩, ⟨by repeat (first | (with_reducible first | exact HB.out | apply below_alloc | apply pw_below_drewN | apply below_drew1 | refine below_set ?_ GE194.out | refine below_set ?_ GE197.out | refine below_set ?_ GE198.out) | exact HB.out)⟩⟩
                        · rw [if_neg c46] at H
                          have c46b0 : decide (a1_1 < ((rd_T28 l0 x6_1).f1)) = false := decide_eq_false c46
                          clear c46
                          have H' := Aside0.mk H
                          clear H
                          have hnb63 := NB198_194.out
                          have hnc63 := NB194_198.out
                          have hnb64 := NB198_197.out
                          have hnc64 := NB197_198.out
                          have hcz65_0 : wc.cell? ⟨gb198, 0, none⟩ = some (.int .i64 x199000_6) := (blk_cell BK198.out 0).trans rfl
                          have hcz65_1 : wc.cell? ⟨gb198, 1, none⟩ = some (.int .i64 x199001_6) := (blk_cell BK198.out 1).trans rfl
                          have hfz65_0 := blk_frozen BK198.out 0
                          have hfz65_1 := blk_frozen BK198.out 1
                          have hnb66 := NB194_197.out
                          have hnc66 := NB197_194.out
                          have hcz67_0 : wc.cell? ⟨gb194, 0, none⟩ = some (.int .i64 a1_0) := (blk_cell BK194.out 0).trans rfl
                          have hcz67_1 : wc.cell? ⟨gb194, 1, none⟩ = some (.int .i64 a1_1) := (blk_cell BK194.out 1).trans rfl
                          have hfz67_0 := blk_frozen BK194.out 0
                          have hfz67_1 := blk_frozen BK194.out 1
                          have hcz68_0 : wc.cell? ⟨gb197, 0, none⟩ = some (.int .i64 ((rd_T28 l0 x6_1).f0)) := (blk_cell BK197.out 0).trans rfl
                          have hcz68_1 : wc.cell? ⟨gb197, 1, none⟩ = some (.int .i64 ((rd_T28 l0 x6_1).f1)) := (blk_cell BK197.out 1).trans rfl
                          have hfz68_0 := blk_frozen BK197.out 0
                          have hfz68_1 := blk_frozen BK197.out 1
                          go_wp2
                          go_roundg kj21
                          case measure => have := HK1.out; have := HJ6.out; have := HJ21.out; omega
                          case rel => exact ⟨(wrap64 (x5_1 + 1)), (wrap64 (x6_1 + 1)), (by first | rfl | (simp; done) | (simp [*]; done)), (by first | rfl | (simp; done) | (simp [*]; done)), H', ⟨by have := HK1.out; have := HJ6.out; have := HJ21.out; omega⟩, ⟨by (with_reducible repeat (first | refine blk_drewN ?_ _ | refine blk_drew ?_ | refine blk_alloc ?_ _)); exact BK194.out⟩, ⟨by repeat (first | (with_reducible first | exact HB.out | apply below_alloc | apply pw_below_drewN | apply below_drew1 | refine below_set ?_ GE194.out | refine below_set ?_ GE197.out | refine below_set ?_ GE198.out) | exact HB.out)⟩⟩
                      · rw [if_neg c45] at H
                        have c45b0 : decide (x199001_6 ≤ a1_1) = false := decide_eq_false c45
                        clear c45
                        have H' := Aside0.mk H
                        clear H
                        have hnb69 := NB198_194.out
                        have hnc69 := NB194_198.out
                        have hnb70 := NB198_197.out
                        have hnc70 := NB197_198.out
                        have hcz71_0 : wc.cell? ⟨gb198, 0, none⟩ = some (.int .i64 x199000_6) := (blk_cell BK198.out 0).trans rfl
                        have hcz71_1 : wc.cell? ⟨gb198, 1, none⟩ = some (.int .i64 x199001_6) := (blk_cell BK198.out 1).trans rfl
                        have hfz71_0 := blk_frozen BK198.out 0
                        have hfz71_1 := blk_frozen BK198.out 1
                        have hnb72 := NB194_197.out
                        have hnc72 := NB197_194.out
                        have hcz73_0 : wc.cell? ⟨gb194, 0, none⟩ = some (.int .i64 a1_0) := (blk_cell BK194.out 0).trans rfl
                        have hcz73_1 : wc.cell? ⟨gb194, 1, none⟩ = some (.int .i64 a1_1) := (blk_cell BK194.out 1).trans rfl
                        have hfz73_0 := blk_frozen BK194.out 0
                        have hfz73_1 := blk_frozen BK194.out 1
                        go_wp2
                        go_roundg kj21
                        case measure => have := HK1.out; have := HJ6.out; have := HJ21.out; omega
                        case rel => exact ⟨(wrap64 (x5_1 + 1)), (wrap64 (x6_1 + 1)), (by first | rfl | (simp; done) | (simp [*]; done)), (by first | rfl | (simp; done) | (simp [*]; done)), H', ⟨by have := HK1.out; have := HJ6.out; have := HJ21.out; omega⟩, ⟨by (with_reducible repeat (first | refine blk_drewN ?_ _ | refine blk_drew ?_ | refine blk_alloc ?_ _)); exact BK194.out⟩, ⟨by repeat (first | (with_reducible first | exact HB.out | apply below_alloc | apply pw_below_drewN | apply below_drew1 | refine below_set ?_ GE194.out | refine below_set ?_ GE197.out | refine below_set ?_ GE198.out) | exact HB.out)⟩⟩
                    · replace c44 := Bool.eq_false_iff.mpr c44
                      subst c44
                      have H1 : (if x199001_6 ≤ a1_1 then (if a1_1 < ((rd_T28 l0 x6_1).f1) then ((limnerref03_Side.f kj21 ((rd_T28 l0 x6_1).f0) ((rd_T28 l0 x6_1).f1) x199000_6 x199001_6 a1_0 a1_1).bind fun t202 => (if t202 < 0 then (limnerref03_Winds.l0 kj21 l0 (wrap64 (x5_1 - 1)) (wrap64 (x6_1 + 1)) a1_0 a1_1) else (limnerref03_Winds.l0 kj21 l0 x5_1 (wrap64 (x6_1 + 1)) a1_0 a1_1))) else (limnerref03_Winds.l0 kj21 l0 x5_1 (wrap64 (x6_1 + 1)) a1_0 a1_1)) else (limnerref03_Winds.l0 kj21 l0 x5_1 (wrap64 (x6_1 + 1)) a1_0 a1_1)) = some r := by rw [if_neg (show ¬ (false = true) by decide)] at H; exact H
                      clear H
                      have H := H1
                      clear H1
                      by_cases c74 : x199001_6 ≤ a1_1
                      · rw [if_pos c74] at H
                        have c74b0 : decide (x199001_6 ≤ a1_1) = true := decide_eq_true c74
                        clear c74
                        by_cases c75 : a1_1 < ((rd_T28 l0 x6_1).f1)
                        · rw [if_pos c75] at H
                          have c75b0 : decide (a1_1 < ((rd_T28 l0 x6_1).f1)) = true := decide_eq_true c75
                          clear c75
                          replace H := Option.bind_eq_some_iff.mp H
                          obtain ⟨t202, A760, H⟩ := H
                          replace H : (if t202 < 0 then (limnerref03_Winds.l0 kj21 l0 (wrap64 (x5_1 - 1)) (wrap64 (x6_1 + 1)) a1_0 a1_1) else (limnerref03_Winds.l0 kj21 l0 x5_1 (wrap64 (x6_1 + 1)) a1_0 a1_1)) = some r := H
                          have A76 := Aside0.mk A760
                          clear A760
                          by_cases c77 : t202 < 0
                          · rw [if_pos c77] at H
                            have c77b0 : decide (t202 < 0) = true := decide_eq_true c77
                            clear c77
                            have H' := Aside0.mk H
                            clear H
                            have hnb78 := NB198_194.out
                            have hnc78 := NB194_198.out
                            have hnb79 := NB198_197.out
                            have hnc79 := NB197_198.out
                            have hcz80_0 : wc.cell? ⟨gb198, 0, none⟩ = some (.int .i64 x199000_6) := (blk_cell BK198.out 0).trans rfl
                            have hcz80_1 : wc.cell? ⟨gb198, 1, none⟩ = some (.int .i64 x199001_6) := (blk_cell BK198.out 1).trans rfl
                            have hfz80_0 := blk_frozen BK198.out 0
                            have hfz80_1 := blk_frozen BK198.out 1
                            have hnb81 := NB194_197.out
                            have hnc81 := NB197_194.out
                            have hcz82_0 : wc.cell? ⟨gb194, 0, none⟩ = some (.int .i64 a1_0) := (blk_cell BK194.out 0).trans rfl
                            have hcz82_1 : wc.cell? ⟨gb194, 1, none⟩ = some (.int .i64 a1_1) := (blk_cell BK194.out 1).trans rfl
                            have hfz82_0 := blk_frozen BK194.out 0
                            have hfz82_1 := blk_frozen BK194.out 1
                            have hcz83_0 : wc.cell? ⟨gb197, 0, none⟩ = some (.int .i64 ((rd_T28 l0 x6_1).f0)) := (blk_cell BK197.out 0).trans rfl
                            have hcz83_1 : wc.cell? ⟨gb197, 1, none⟩ = some (.int .i64 ((rd_T28 l0 x6_1).f1)) := (blk_cell BK197.out 1).trans rfl
                            have hfz83_0 := blk_frozen BK197.out 0
                            have hfz83_1 := blk_frozen BK197.out 1
                            go_wp2_with (first | (go_at_call 18; (with_reducible refine (limnerref03_Side.calls kj21 ((rd_T28 l0 x6_1).f0) ((rd_T28 l0 x6_1).f1) x199000_6 x199001_6 a1_0 a1_1 t202 _ A76.out).mono ?_); rintro e w84 ⟨rfl, hb⟩; have n0_ := Aside0.mk (blk_below (g := gb194) (o := .cells #[.int .i64 a1_0, .int .i64 a1_1] 28 (0, 0)) (by (with_reducible repeat (first | refine blk_drewN ?_ _ | refine blk_drew ?_ | refine blk_alloc ?_ _)); exact BK194.out) hb); have n1_ := Aside0.mk (blk_below (g := gb197) (o := .cells #[.int .i64 ((rd_T28 l0 x6_1).f0), .int .i64 ((rd_T28 l0 x6_1).f1)] 28 (0, 0)) (by (with_reducible repeat (first | refine blk_drewN ?_ _ | refine blk_drew ?_ | refine blk_alloc ?_ _)); exact BK197.out) hb); have n2_ := Aside0.mk (blk_below (g := gb198) (o := .cells #[.int .i64 x199000_6, .int .i64 x199001_6] 28 (0, 0)) (by (with_reducible repeat (first | refine blk_drewN ?_ _ | refine blk_drew ?_ | refine blk_alloc ?_ _)); exact BK198.out) hb); have n3_ := Aside0.mk (below_step (by repeat (first | (with_reducible first | exact HB.out | apply below_alloc | apply pw_below_drewN | apply below_drew1 | refine below_set ?_ GE194.out | refine below_set ?_ GE197.out | refine below_set ?_ GE198.out) | exact HB.out)) hb); clear BK194; clear BK197; clear BK198; clear HB; have BK194 := n0_; have BK197 := n1_; have BK198 := n2_; have HB := n3_; clear n0_ n1_ n2_ n3_; (try clear hb); (try clear hb2); (try clear hk); (try clear hi)))
                            go_roundg kj21
                            case measure => have := HK1.out; have := HJ6.out; have := HJ21.out; omega
                            case rel => exact ⟨(wrap64 (x5_1 - 1)), (wrap64 (x6_1 + 1)), (by first | rfl | (simp; done) | (simp [*]; done)), (by first | rfl | (simp; done) | (simp [*]; done)), H', ⟨by have := HK1.out; have := HJ6.out; have := HJ21.out; omega⟩, ⟨by (with_reducible repeat (first | refine blk_drewN ?_ _ | refine blk_drew ?_ | refine blk_alloc ?_ _)); exact BK194.out⟩, ⟨by repeat (first | (with_reducible first | exact HB.out | apply below_alloc | apply pw_below_drewN | apply below_drew1 | refine below_set ?_ GE194.out | refine below_set ?_ GE197.out | refine below_set ?_ GE198.out) | exact HB.out)⟩⟩
                          · rw [if_neg c77] at H
                            have c77b0 : decide (t202 < 0) = false := decide_eq_false c77
                            clear c77
                            have H' := Aside0.mk H
                            clear H
                            have hnb85 := NB198_194.out
                            have hnc85 := NB194_198.out
                            have hnb86 := NB198_197.out
                            have hnc86 := NB197_198.out
                            have hcz87_0 : wc.cell? ⟨gb198, 0, none⟩ = some (.int .i64 x199000_6) := (blk_cell BK198.out 0).trans rfl
                            have hcz87_1 : wc.cell? ⟨gb198, 1, none⟩ = some (.int .i64 x199001_6) := (blk_cell BK198.out 1).trans rfl
                            have hfz87_0 := blk_frozen BK198.out 0
                            have hfz87_1 := blk_frozen BK198.out 1
                            have hnb88 := NB194_197.out
                            have hnc88 := NB197_194.out
                            have hcz89_0 : wc.cell? ⟨gb194, 0, none⟩ = some (.int .i64 a1_0) := (blk_cell BK194.out 0).trans rfl
                            have hcz89_1 : wc.cell? ⟨gb194, 1, none⟩ = some (.int .i64 a1_1) := (blk_cell BK194.out 1).trans rfl
                            have hfz89_0 := blk_frozen BK194.out 0
                            have hfz89_1 := blk_frozen BK194.out 1
                            have hcz90_0 : wc.cell? ⟨gb197, 0, none⟩ = some (.int .i64 ((rd_T28 l0 x6_1).f0)) := (blk_cell BK197.out 0).trans rfl
                            have hcz90_1 : wc.cell? ⟨gb197, 1, none⟩ = some (.int .i64 ((rd_T28 l0 x6_1).f1)) := (blk_cell BK197.out 1).trans rfl
                            have hfz90_0 := blk_frozen BK197.out 0
                            have hfz90_1 := blk_frozen BK197.out 1
                            go_wp2_with (first | (go_at_call 18; (with_reducible refine (limnerref03_Side.calls kj21 ((rd_T28 l0 x6_1).f0) ((rd_T28 l0 x6_1).f1) x199000_6 x199001_6 a1_0 a1_1 t202 _ A76.out).mono ?_); rintro e w91 ⟨rfl, hb⟩; have n0_ := Aside0.mk (blk_below (g := gb194) (o := .cells #[.int .i64 a1_0, .int .i64 a1_1] 28 (0, 0)) (by (with_reducible repeat (first | refine blk_drewN ?_ _ | refine blk_drew ?_ | refine blk_alloc ?_ _)); exact BK194.out) hb); have n1_ := Aside0.mk (blk_below (g := gb197) (o := .cells #[.int .i64 ((rd_T28 l0 x6_1).f0), .int .i64 ((rd_T28 l0 x6_1).f1)] 28 (0, 0)) (by (with_reducible repeat (first | refine blk_drewN ?_ _ | refine blk_drew ?_ | refine blk_alloc ?_ _)); exact BK197.out) hb); have n2_ := Aside0.mk (blk_below (g := gb198) (o := .cells #[.int .i64 x199000_6, .int .i64 x199001_6] 28 (0, 0)) (by (with_reducible repeat (first | refine blk_drewN ?_ _ | refine blk_drew ?_ | refine blk_alloc ?_ _)); exact BK198.out) hb); have n3_ := Aside0.mk (below_step (by repeat (first | (with_reducible first | exact HB.out | apply below_alloc | apply pw_below_drewN | apply below_drew1 | refine below_set ?_ GE194.out | refine below_set ?_ GE197.out | refine below_set ?_ GE198.out) | exact HB.out)) hb); clear BK194; clear BK197; clear BK198; clear HB; have BK194 := n0_; have BK197 := n1_; have BK198 := n2_; have HB := n3_; clear n0_ n1_ n2_ n3_; (try clear hb); (try clear hb2); (try clear hk); (try clear hi)))
                            go_roundg kj21
                            case measure => have := HK1.out; have := HJ6.out; have := HJ21.out; omega
                            case rel => exact ⟨(x5_1), (wrap64 (x6_1 + 1)), (by first | rfl | (simp; done) | (simp [*]; done)), (by first | rfl | (simp; done) | (simp [*]; done)), H', ⟨by have := HK1.out; have := HJ6.out; have := HJ21.out; omega⟩, ⟨by (with_reducible repeat (first | refine blk_drewN ?_ _ | refine blk_drew ?_ | refine blk_alloc ?_ _)); exact BK194.out⟩, ⟨by repeat (first | (with_reducible first | exact HB.out | apply below_alloc | apply pw_below_drewN | apply below_drew1 | refine below_set ?_ GE194.out | refine below_set ?_ GE197.out | refine below_set ?_ GE198.out) | exact HB.out)⟩⟩
                        · rw [if_neg c75] at H
                          have c75b0 : decide (a1_1 < ((rd_T28 l0 x6_1).f1)) = false := decide_eq_false c75
                          clear c75
                          have H' := Aside0.mk H
                          clear H
                          have hnb92 := NB198_194.out
                          have hnc92 := NB194_198.out
                          have hnb93 := NB198_197.out
                          have hnc93 := NB197_198.out
                          have hcz94_0 : wc.cell? ⟨gb198, 0, none⟩ = some (.int .i64 x199000_6) := (blk_cell BK198.out 0).trans rfl
                          have hcz94_1 : wc.cell? ⟨gb198, 1, none⟩ = some (.int .i64 x199001_6) := (blk_cell BK198.out 1).trans rfl
                          have hfz94_0 := blk_frozen BK198.out 0
                          have hfz94_1 := blk_frozen BK198.out 1
                          have hnb95 := NB194_197.out
                          have hnc95 := NB197_194.out
                          have hcz96_0 : wc.cell? ⟨gb194, 0, none⟩ = some (.int .i64 a1_0) := (blk_cell BK194.out 0).trans rfl
                          have hcz96_1 : wc.cell? ⟨gb194, 1, none⟩ = some (.int .i64 a1_1) := (blk_cell BK194.out 1).trans rfl
                          have hfz96_0 := blk_frozen BK194.out 0
                          have hfz96_1 := blk_frozen BK194.out 1
                          have hcz97_0 : wc.cell? ⟨gb197, 0, none⟩ = some (.int .i64 ((rd_T28 l0 x6_1).f0)) := (blk_cell BK197.out 0).trans rfl
                          have hcz97_1 : wc.cell? ⟨gb197, 1, none⟩ = some (.int .i64 ((rd_T28 l0 x6_1).f1)) := (blk_cell BK197.out 1).trans rfl
                          have hfz97_0 := blk_frozen BK197.out 0
                          have hfz97_1 := blk_frozen BK197.out 1
                          go_wp2
                          go_roundg kj21
                          case measure => have := HK1.out; have := HJ6.out; have := HJ21.out; omega
                          case rel => exact ⟨(x5_1), (wrap64 (x6_1 + 1)), (by first | rfl | (simp; done) | (simp [*]; done)), (by first | rfl | (simp; done) | (simp [*]; done)), H', ⟨by have := HK1.out; have := HJ6.out; have := HJ21.out; omega⟩, ⟨by (with_reducible repeat (first | refine blk_drewN ?_ _ | refine blk_drew ?_ | refine blk_alloc ?_ _)); exact BK194.out⟩, ⟨by repeat (first | (with_reducible first | exact HB.out | apply below_alloc | apply pw_below_drewN | apply below_drew1 | refine below_set ?_ GE194.out | refine below_set ?_ GE197.out | refine below_set ?_ GE198.out) | exact HB.out)⟩⟩
                      · rw [if_neg c74] at H
                        have c74b0 : decide (x199001_6 ≤ a1_1) = false := decide_eq_false c74
                        clear c74
                        have H' := Aside0.mk H
                        clear H
                        have hnb98 := NB198_194.out
                        have hnc98 := NB194_198.out
                        have hnb99 := NB198_197.out
                        have hnc99 := NB197_198.out
                        have hcz100_0 : wc.cell? ⟨gb198, 0, none⟩ = some (.int .i64 x199000_6) := (blk_cell BK198.out 0).trans rfl
                        have hcz100_1 : wc.cell? ⟨gb198, 1, none⟩ = some (.int .i64 x199001_6) := (blk_cell BK198.out 1).trans rfl
                        have hfz100_0 := blk_frozen BK198.out 0
                        have hfz100_1 := blk_frozen BK198.out 1
                        have hnb101 := NB194_197.out
                        have hnc101 := NB197_194.out
                        have hcz102_0 : wc.cell? ⟨gb194, 0, none⟩ = some (.int .i64 a1_0) := (blk_cell BK194.out 0).trans rfl
                        have hcz102_1 : wc.cell? ⟨gb194, 1, none⟩ = some (.int .i64 a1_1) := (blk_cell BK194.out 1).trans rfl
                        have hfz102_0 := blk_frozen BK194.out 0
                        have hfz102_1 := blk_frozen BK194.out 1
                        go_wp2
                        go_roundg kj21
                        case measure => have := HK1.out; have := HJ6.out; have := HJ21.out; omega
                        case rel => exact ⟨(x5_1), (wrap64 (x6_1 + 1)), (by first | rfl | (simp; done) | (simp [*]; done)), (by first | rfl | (simp; done) | (simp [*]; done)), H', ⟨by have := HK1.out; have := HJ6.out; have := HJ21.out; omega⟩, ⟨by (with_reducible repeat (first | refine blk_drewN ?_ _ | refine blk_drew ?_ | refine blk_alloc ?_ _)); exact BK194.out⟩, ⟨by repeat (first | (with_reducible first | exact HB.out | apply below_alloc | apply pw_below_drewN | apply below_drew1 | refine below_set ?_ GE194.out | refine below_set ?_ GE197.out | refine below_set ?_ GE198.out) | exact HB.out)⟩⟩
          · rw [if_neg c6] at H
            exact absurd H (by simp)
        · rw [if_neg c5] at H
          exact absurd H (by simp)
      · rw [if_neg c4] at H
        have c4b0 : decide (x6_1 < (l0.length : Int)) = false := decide_eq_false c4
        clear c4
        obtain rfl := Option.some.inj H
        go_wp2
        go_ret
        exact ⟨by first | rfl | (simp [errW_none, errW_some] <;> rfl) | (simp [*, errW_none, errW_some] <;> rfl), by repeat (first | (with_reducible first | exact HB.out | apply below_alloc | apply pw_below_drewN | apply below_drew1 | refine below_set ?_ GE194.out) | exact HB.out)⟩

end Go.Proofs.Ytfhjndnempmcaaa.X
