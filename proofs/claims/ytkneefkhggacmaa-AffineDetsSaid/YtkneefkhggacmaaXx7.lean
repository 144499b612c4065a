/- Functions of this part, each as a plain Lean function, and a proof that the machine comes to just what it says; written by a program of this session (xprint.py, over the kit's print). Conditions: those that each theorem names. -/
import Derived.Test.YtkneefkhggacmaaXx0
namespace Go.Proofs.Ytkneefkhggacmaa.X
open Go.Proofs.Ytkneefkhggacmaa
open Go.RowKit Go.Proofs.YtkneefkhggacmaaW.PrintWords Go.Proofs.YtkneefkhggacmaaW.PrintLast Go.Proofs.YtkneefkhggacmaaW.PrintMore
attribute [local go_sem] max2_int min2_int max_two min_two max_three min_three max_four min_four   -- for this text's walks alone
set_option linter.unusedVariables false
set_option linter.unusedSimpArgs false

/-! ### limnerref01_In: function 26 -/
def limnerref01_In.f (a0 : Int) : Option (Bool) := if a0 ≥ (-2147483648) then (some (decide (a0 ≤ 2147483648))) else (some false)
set_option maxHeartbeats 8000000 in
set_option maxRecDepth 100000 in
theorem limnerref01_In.calls (a0 : Int) (r : Bool) (w : World) (h : limnerref01_In.f a0 = some r) :
    Calls Try.prog 26 #[.int .i64 a0] w fun e w' => e = .returned (.bool r) ∧ Drawn0 w w' := by
  have H : (if a0 ≥ (-2147483648) then (some (decide (a0 ≤ 2147483648))) else (some false)) = some r := h
  clear h
  by_cases c2 : a0 ≥ (-2147483648)
  · rw [if_pos c2] at H
    have c2b0 : decide ((-2147483648) ≤ a0) = true := decide_eq_true c2
    clear c2
    obtain rfl := Option.some.inj H
    go_enter Try.func26, Try.ntmps26
    go_wp2
    go_ret
    exact ⟨by first | rfl | (simp; done) | (simp [*]; done), by repeat (first | exact Drawn0.refl _ | apply Drawn0.step)⟩
  · rw [if_neg c2] at H
    have c2b0 : decide ((-2147483648) ≤ a0) = false := decide_eq_false c2
    clear c2
    obtain rfl := Option.some.inj H
    go_enter Try.func26, Try.ntmps26
    go_wp2
    go_ret
    exact ⟨by first | rfl | (simp; done) | (simp [*]; done), by repeat (first | exact Drawn0.refl _ | apply Drawn0.step)⟩

/-! ### limnerref04_Right: function 16 -/
def limnerref04_Right.f (a0_0 : Int) (a0_1 : Int) (a0_2 : Int) (a0_3 : Int) (a0_4 : Int) (a0_5 : Int) : Option (Bool) := if a0_0 < (-16777216) then (some false) else (if a0_0 > 16777216 then (some false) else (if a0_1 < (-16777216) then (some false) else (if a0_1 > 16777216 then (some false) else (if a0_2 < (-16777216) then (some false) else (if a0_2 > 16777216 then (some false) else (if a0_3 < (-16777216) then (some false) else (if a0_3 > 16777216 then (some false) else ((limnerref01_In.f a0_4).bind fun t137 => (if t137 = true then ((limnerref01_In.f a0_5).bind fun t138 => (some t138)) else (some false))))))))))
set_option maxHeartbeats 8000000 in
set_option maxRecDepth 100000 in
theorem limnerref04_Right.calls (a0_0 : Int) (a0_1 : Int) (a0_2 : Int) (a0_3 : Int) (a0_4 : Int) (a0_5 : Int) (r : Bool) (w : World) (h : limnerref04_Right.f a0_0 a0_1 a0_2 a0_3 a0_4 a0_5 = some r) :
    Calls Try.prog 16 #[.agg #[.int .i64 a0_0, .int .i64 a0_1, .int .i64 a0_2, .int .i64 a0_3, .int .i64 a0_4, .int .i64 a0_5]] w fun e w' => e = .returned (.bool r) ∧ Below w.heap.size w w' := by
  have hu31 := Try.underlying31
  have HB := Aside0.mk (Below.refl w.heap.size w)
  have H : (if a0_0 < (-16777216) then (some false) else (if a0_0 > 16777216 then (some false) else (if a0_1 < (-16777216) then (some false) else (if a0_1 > 16777216 then (some false) else (if a0_2 < (-16777216) then (some false) else (if a0_2 > 16777216 then (some false) else (if a0_3 < (-16777216) then (some false) else (if a0_3 > 16777216 then (some false) else ((limnerref01_In.f a0_4).bind fun t137 => (if t137 = true then ((limnerref01_In.f a0_5).bind fun t138 => (some t138)) else (some false))))))))))) = some r := h
  clear h
  by_cases c2 : a0_0 < (-16777216)
  · rw [if_pos c2] at H
    have c2b0 : decide (a0_0 < (-16777216)) = true := decide_eq_true c2
    clear c2
    obtain rfl := Option.some.inj H
    go_enter Try.func16, Try.ntmps16
    go_wp2_with (first | ((with_reducible refine gate_dst (N := 1) rfl ?_); refine box_event ?hg (N := 1) ?hd (cs := #[.int .i64 a0_0, .int .i64 a0_1, .int .i64 a0_2, .int .i64 a0_3, .int .i64 a0_4, .int .i64 a0_5]) (t := 31) ?hr ?_; (case hd => rfl); (case hg => rfl); (case hr => first | (go_simp; done) | (go_simp; rfl)); intro gb136 hg w3 hbox hb; have n0_ := Aside0.mk (below_step (by repeat (first | (with_reducible first | exact HB.out | apply below_alloc | apply pw_below_drewN | apply below_drew1) | exact HB.out)) hb); have n1_ := Aside0.mk (hbox); have n2_ := Aside0.mk ((by rw [hg]; exact (below_size (by repeat (first | (with_reducible first | exact HB.out | apply below_alloc | apply pw_below_drewN | apply below_drew1) | exact HB.out))) : w.heap.size ≤ gb136)); have n3_ := Aside0.mk ((by rw [hg]; exact (below_size (by repeat (first | (with_reducible first | exact HB.out | apply below_alloc | apply pw_below_drewN | apply below_drew1) | exact HB.out))) : w.heap.size ≤ gb136)); clear HB; have HB := n0_; have BK136 := n1_; have GW136 := n2_; have GE136 := n3_; clear n0_ n1_ n2_ n3_; clear hb hbox hg))
    refine wp_loop_rounds 5 ?_
    rw [rounds_succ]
    have hcz4_0 : w3.cell? ⟨gb136, 0, none⟩ = some (.int .i64 a0_0) := (blk_cell BK136.out 0).trans rfl
    have hcz4_1 : w3.cell? ⟨gb136, 1, none⟩ = some (.int .i64 a0_1) := (blk_cell BK136.out 1).trans rfl
    have hcz4_2 : w3.cell? ⟨gb136, 2, none⟩ = some (.int .i64 a0_2) := (blk_cell BK136.out 2).trans rfl
    have hcz4_3 : w3.cell? ⟨gb136, 3, none⟩ = some (.int .i64 a0_3) := (blk_cell BK136.out 3).trans rfl
    have hcz4_4 : w3.cell? ⟨gb136, 4, none⟩ = some (.int .i64 a0_4) := (blk_cell BK136.out 4).trans rfl
    have hcz4_5 : w3.cell? ⟨gb136, 5, none⟩ = some (.int .i64 a0_5) := (blk_cell BK136.out 5).trans rfl
    have hfz4_0 := blk_frozen BK136.out 0
    have hfz4_1 := blk_frozen BK136.out 1
    have hfz4_2 := blk_frozen BK136.out 2
    have hfz4_3 := blk_frozen BK136.out 3
    have hfz4_4 := blk_frozen BK136.out 4
    have hfz4_5 := blk_frozen BK136.out 5
    go_wp2
    go_ret
    exact ⟨by first | rfl | (simp [errW_none, errW_some] <;> rfl) | (simp [*, errW_none, errW_some] <;> rfl), by repeat (first | (with_reducible first | exact HB.out | apply below_alloc | apply pw_below_drewN | apply below_drew1 | refine below_set ?_ GE136.out) | exact HB.out)⟩
  · rw [if_neg c2] at H
    have c2b0 : decide (a0_0 < (-16777216)) = false := decide_eq_false c2
    clear c2
    by_cases c5 : a0_0 > 16777216
    · rw [if_pos c5] at H
      have c5b0 : decide (16777216 < a0_0) = true := decide_eq_true c5
      clear c5
      obtain rfl := Option.some.inj H
      go_enter Try.func16, Try.ntmps16
      go_wp2_with (first | ((with_reducible refine gate_dst (N := 1) rfl ?_); refine box_event ?hg (N := 1) ?hd (cs := #[.int .i64 a0_0, .int .i64 a0_1, .int .i64 a0_2, .int .i64 a0_3, .int .i64 a0_4, .int .i64 a0_5]) (t := 31) ?hr ?_; (case hd => rfl); (case hg => rfl); (case hr => first | (go_simp; done) | (go_simp; rfl)); intro gb136 hg w6 hbox hb; have n0_ := Aside0.mk (below_step (by repeat (first | (with_reducible first | exact HB.out | apply below_alloc | apply pw_below_drewN | apply below_drew1) | exact HB.out)) hb); have n1_ := Aside0.mk (hbox); have n2_ := Aside0.mk ((by rw [hg]; exact (below_size (by repeat (first | (with_reducible first | exact HB.out | apply below_alloc | apply pw_below_drewN | apply below_drew1) | exact HB.out))) : w.heap.size ≤ gb136)); have n3_ := Aside0.mk ((by rw [hg]; exact (below_size (by repeat (first | (with_reducible first | exact HB.out | apply below_alloc | apply pw_below_drewN | apply below_drew1) | exact HB.out))) : w.heap.size ≤ gb136)); clear HB; have HB := n0_; have BK136 := n1_; have GW136 := n2_; have GE136 := n3_; clear n0_ n1_ n2_ n3_; clear hb hbox hg))
      refine wp_loop_rounds 5 ?_
      rw [rounds_succ]
      have hcz7_0 : w6.cell? ⟨gb136, 0, none⟩ = some (.int .i64 a0_0) := (blk_cell BK136.out 0).trans rfl
      have hcz7_1 : w6.cell? ⟨gb136, 1, none⟩ = some (.int .i64 a0_1) := (blk_cell BK136.out 1).trans rfl
      have hcz7_2 : w6.cell? ⟨gb136, 2, none⟩ = some (.int .i64 a0_2) := (blk_cell BK136.out 2).trans rfl
      have hcz7_3 : w6.cell? ⟨gb136, 3, none⟩ = some (.int .i64 a0_3) := (blk_cell BK136.out 3).trans rfl
      have hcz7_4 : w6.cell? ⟨gb136, 4, none⟩ = some (.int .i64 a0_4) := (blk_cell BK136.out 4).trans rfl
      have hcz7_5 : w6.cell? ⟨gb136, 5, none⟩ = some (.int .i64 a0_5) := (blk_cell BK136.out 5).trans rfl
      have hfz7_0 := blk_frozen BK136.out 0
      have hfz7_1 := blk_frozen BK136.out 1
      have hfz7_2 := blk_frozen BK136.out 2
      have hfz7_3 := blk_frozen BK136.out 3
      have hfz7_4 := blk_frozen BK136.out 4
      have hfz7_5 := blk_frozen BK136.out 5
      go_wp2
      go_ret
      exact ⟨by first | rfl | (simp [errW_none, errW_some] <;> rfl) | (simp [*, errW_none, errW_some] <;> rfl), by repeat (first | (with_reducible first | exact HB.out | apply below_alloc | apply pw_below_drewN | apply below_drew1 | refine below_set ?_ GE136.out) | exact HB.out)⟩
    · rw [if_neg c5] at H
      have c5b0 : decide (16777216 < a0_0) = false := decide_eq_false c5
      clear c5
      by_cases c8 : a0_1 < (-16777216)
      · rw [if_pos c8] at H
        have c8b0 : decide (a0_1 < (-16777216)) = true := decide_eq_true c8
        clear c8
        obtain rfl := Option.some.inj H
        go_enter Try.func16, Try.ntmps16
        go_wp2_with (first | ((with_reducible refine gate_dst (N := 1) rfl ?_); refine box_event ?hg (N := 1) ?hd (cs := #[.int .i64 a0_0, .int .i64 a0_1, .int .i64 a0_2, .int .i64 a0_3, .int .i64 a0_4, .int .i64 a0_5]) (t := 31) ?hr ?_; (case hd => rfl); (case hg => rfl); (case hr => first | (go_simp; done) | (go_simp; rfl)); intro gb136 hg w9 hbox hb; have n0_ := Aside0.mk (below_step (by repeat (first | (with_reducible first | exact HB.out | apply below_alloc | apply pw_below_drewN | apply below_drew1) | exact HB.out)) hb); have n1_ := Aside0.mk (hbox); have n2_ := Aside0.mk ((by rw [hg]; exact (below_size (by repeat (first | (with_reducible first | exact HB.out | apply below_alloc | apply pw_below_drewN | apply below_drew1) | exact HB.out))) : w.heap.size ≤ gb136)); have n3_ := Aside0.mk ((by rw [hg]; exact (below_size (by repeat (first | (with_reducible first | exact HB.out | apply below_alloc | apply pw_below_drewN | apply below_drew1) | exact HB.out))) : w.heap.size ≤ gb136)); clear HB; have HB := n0_; have BK136 := n1_; have GW136 := n2_; have GE136 := n3_; clear n0_ n1_ n2_ n3_; clear hb hbox hg))
        refine wp_loop_rounds 5 ?_
        rw [rounds_succ]
        have hcz10_0 : w9.cell? ⟨gb136, 0, none⟩ = some (.int .i64 a0_0) := (blk_cell BK136.out 0).trans rfl
        have hcz10_1 : w9.cell? ⟨gb136, 1, none⟩ = some (.int .i64 a0_1) := (blk_cell BK136.out 1).trans rfl
        have hcz10_2 : w9.cell? ⟨gb136, 2, none⟩ = some (.int .i64 a0_2) := (blk_cell BK136.out 2).trans rfl
        have hcz10_3 : w9.cell? ⟨gb136, 3, none⟩ = some (.int .i64 a0_3) := (blk_cell BK136.out 3).trans rfl
        have hcz10_4 : w9.cell? ⟨gb136, 4, none⟩ = some (.int .i64 a0_4) := (blk_cell BK136.out 4).trans rfl
        have hcz10_5 : w9.cell? ⟨gb136, 5, none⟩ = some (.int .i64 a0_5) := (blk_cell BK136.out 5).trans rfl
        have hfz10_0 := blk_frozen BK136.out 0
        have hfz10_1 := blk_frozen BK136.out 1
        have hfz10_2 := blk_frozen BK136.out 2
        have hfz10_3 := blk_frozen BK136.out 3
        have hfz10_4 := blk_frozen BK136.out 4
        have hfz10_5 := blk_frozen BK136.out 5
        go_wp2
        rw [rounds_succ]
        go_wp2
        go_ret
        exact ⟨by first | rfl | (simp [errW_none, errW_some] <;> rfl) | (simp [*, errW_none, errW_some] <;> rfl), by repeat (first | (with_reducible first | exact HB.out | apply below_alloc | apply pw_below_drewN | apply below_drew1 | refine below_set ?_ GE136.out) | exact HB.out)⟩
      · rw [if_neg c8] at H
        have c8b0 : decide (a0_1 < (-16777216)) = false := decide_eq_false c8
        clear c8
        by_cases c11 : a0_1 > 16777216
        · rw [if_pos c11] at H
          have c11b0 : decide (16777216 < a0_1) = true := decide_eq_true c11
          clear c11
          obtain rfl := Option.some.inj H
          go_enter Try.func16, Try.ntmps16
          go_wp2_with (first | ((with_reducible refine gate_dst (N := 1) rfl ?_); refine box_event ?hg (N := 1) ?hd (cs := #[.int .i64 a0_0, .int .i64 a0_1, .int .i64 a0_2, .int .i64 a0_3, .int .i64 a0_4, .int .i64 a0_5]) (t := 31) ?hr ?_; (case hd => rfl); (case hg => rfl); (case hr => first | (go_simp; done) | (go_simp; rfl)); intro gb136 hg w12 hbox hb; have n0_ := Aside0.mk (below_step (by repeat (first | (with_reducible first | exact HB.out | apply below_alloc | apply pw_below_drewN | apply below_drew1) | exact HB.out)) hb); have n1_ := Aside0.mk (hbox); have n2_ := Aside0.mk ((by rw [hg]; exact (below_size (by repeat (first | (with_reducible first | exact HB.out | apply below_alloc | apply pw_below_drewN | apply below_drew1) | exact HB.out))) : w.heap.size ≤ gb136)); have n3_ := Aside0.mk ((by rw [hg]; exact (below_size (by repeat (first | (with_reducible first | exact HB.out | apply below_alloc | apply pw_below_drewN | apply below_drew1) | exact HB.out))) : w.heap.size ≤ gb136)); clear HB; have HB := n0_; have BK136 := n1_; have GW136 := n2_; have GE136 := n3_; clear n0_ n1_ n2_ n3_; clear hb hbox hg))
          refine wp_loop_rounds 5 ?_
          rw [rounds_succ]
          have hcz13_0 : w12.cell? ⟨gb136, 0, none⟩ = some (.int .i64 a0_0) := (blk_cell BK136.out 0).trans rfl
          have hcz13_1 : w12.cell? ⟨gb136, 1, none⟩ = some (.int .i64 a0_1) := (blk_cell BK136.out 1).trans rfl
          have hcz13_2 : w12.cell? ⟨gb136, 2, none⟩ = some (.int .i64 a0_2) := (blk_cell BK136.out 2).trans rfl
          have hcz13_3 : w12.cell? ⟨gb136, 3, none⟩ = some (.int .i64 a0_3) := (blk_cell BK136.out 3).trans rfl
          have hcz13_4 : w12.cell? ⟨gb136, 4, none⟩ = some (.int .i64 a0_4) := (blk_cell BK136.out 4).trans rfl
          have hcz13_5 : w12.cell? ⟨gb136, 5, none⟩ = some (.int .i64 a0_5) := (blk_cell BK136.out 5).trans rfl
          have hfz13_0 := blk_frozen BK136.out 0
          have hfz13_1 := blk_frozen BK136.out 1
          have hfz13_2 := blk_frozen BK136.out 2
          have hfz13_3 := blk_frozen BK136.out 3
          have hfz13_4 := blk_frozen BK136.out 4
          have hfz13_5 := blk_frozen BK136.out 5
          go_wp2
          rw [rounds_succ]
          go_wp2
          go_ret
          exact ⟨by first | rfl | (simp [errW_none, errW_some] <;> rfl) | (simp [*, errW_none, errW_some] <;> rfl), by repeat (first | (with_reducible first | exact HB.out | apply below_alloc | apply pw_below_drewN | apply below_drew1 | refine below_set ?_ GE136.out) | exact HB.out)⟩
        · rw [if_neg c11] at H
          have c11b0 : decide (16777216 < a0_1) = false := decide_eq_false c11
          clear c11
          by_cases c14 : a0_2 < (-16777216)
          · rw [if_pos c14] at H
            have c14b0 : decide (a0_2 < (-16777216)) = true := decide_eq_true c14
            clear c14
            obtain rfl := Option.some.inj H
            go_enter Try.func16, Try.ntmps16
            go_wp2_with (first | ((with_reducible refine gate_dst (N := 1) rfl ?_); refine box_event ?hg (N := 1) ?hd (cs := #[.int .i64 a0_0, .int .i64 a0_1, .int .i64 a0_2, .int .i64 a0_3, .int .i64 a0_4, .int .i64 a0_5]) (t := 31) ?hr ?_; (case hd => rfl); (case hg => rfl); (case hr => first | (go_simp; done) | (go_simp; rfl)); intro gb136 hg w15 hbox hb; have n0_ := Aside0.mk (below_step (by repeat (first | (with_reducible first | exact HB.out | apply below_alloc | apply pw_below_drewN | apply below_drew1) | exact HB.out)) hb); have n1_ := Aside0.mk (hbox); have n2_ := Aside0.mk ((by rw [hg]; exact (below_size (by repeat (first | (with_reducible first | exact HB.out | apply below_alloc | apply pw_below_drewN | apply below_drew1) | exact HB.out))) : w.heap.size ≤ gb136)); have n3_ := Aside0.mk ((by rw [hg]; exact (below_size (by repeat (first | (with_reducible first | exact HB.out | apply below_alloc | apply pw_below_drewN | apply below_drew1) | exact HB.out))) : w.heap.size ≤ gb136)); clear HB; have HB := n0_; have BK136 := n1_; have GW136 := n2_; have GE136 := n3_; clear n0_ n1_ n2_ n3_; clear hb hbox hg))
            refine wp_loop_rounds 5 ?_
            rw [rounds_succ]
            have hcz16_0 : w15.cell? ⟨gb136, 0, none⟩ = some (.int .i64 a0_0) := (blk_cell BK136.out 0).trans rfl
            have hcz16_1 : w15.cell? ⟨gb136, 1, none⟩ = some (.int .i64 a0_1) := (blk_cell BK136.out 1).trans rfl
            have hcz16_2 : w15.cell? ⟨gb136, 2, none⟩ = some (.int .i64 a0_2) := (blk_cell BK136.out 2).trans rfl
            have hcz16_3 : w15.cell? ⟨gb136, 3, none⟩ = some (.int .i64 a0_3) := (blk_cell BK136.out 3).trans rfl
            have hcz16_4 : w15.cell? ⟨gb136, 4, none⟩ = some (.int .i64 a0_4) := (blk_cell BK136.out 4).trans rfl
            have hcz16_5 : w15.cell? ⟨gb136, 5, none⟩ = some (.int .i64 a0_5) := (blk_cell BK136.out 5).trans rfl
            have hfz16_0 := blk_frozen BK136.out 0
            have hfz16_1 := blk_frozen BK136.out 1
            have hfz16_2 := blk_frozen BK136.out 2
            have hfz16_3 := blk_frozen BK136.out 3
            have hfz16_4 := blk_frozen BK136.out 4
            have hfz16_5 := blk_frozen BK136.out 5
            go_wp2
            rw [rounds_succ]
            go_wp2
            rw [rounds_succ]
            go_wp2
            go_ret
            exact ⟨by first | rfl | (simp [errW_none, errW_some] <;> rfl) | (simp [*, errW_none, errW_some] <;> rfl), by repeat (first | (with_reducible first | exact HB.out | apply below_alloc | apply pw_below_drewN | apply below_drew1 | refine below_set ?_ GE136.out) | exact HB.out)⟩
          · rw [if_neg c14] at H
            have c14b0 : decide (a0_2 < (-16777216)) = false := decide_eq_false c14
            clear c14
            by_cases c17 : a0_2 > 16777216
            · rw [if_pos c17] at H
              have c17b0 : decide (16777216 < a0_2) = true := decide_eq_true c17
              clear c17
              obtain rfl := Option.some.inj H
              go_enter Try.func16, Try.ntmps16
              go_wp2_with (first | ((with_reducible refine gate_dst (N := 1) rfl ?_); refine box_event ?hg (N := 1) ?hd (cs := #[.int .i64 a0_0, .int .i64 a0_1, .int .i64 a0_2, .int .i64 a0_3, .int .i64 a0_4, .int .i64 a0_5]) (t := 31) ?hr ?_; (case hd => rfl); (case hg => rfl); (case hr => first | (go_simp; done) | (go_simp; rfl)); intro gb136 hg w18 hbox hb; have n0_ := Aside0.mk (below_step (by repeat (first | (with_reducible first | exact HB.out | apply below_alloc | apply pw_below_drewN | apply below_drew1) | exact HB.out)) hb); have n1_ := Aside0.mk (hbox); have n2_ := Aside0.mk ((by rw [hg]; exact (below_size (by repeat (first | (with_reducible first | exact HB.out | apply below_alloc | apply pw_below_drewN | apply below_drew1) | exact HB.out))) : w.heap.size ≤ gb136)); have n3_ := Aside0.mk ((by rw [hg]; exact (below_size (by repeat (first | (with_reducible first | exact HB.out | apply below_alloc | apply pw_below_drewN | apply below_drew1) | exact HB.out))) : w.heap.size ≤ gb136)); clear HB; have HB := n0_; have BK136 := n1_; have GW136 := n2_; have GE136 := n3_; clear n0_ n1_ n2_ n3_; clear hb hbox hg))
              refine wp_loop_rounds 5 ?_
              rw [rounds_succ]
              have hcz19_0 : w18.cell? ⟨gb136, 0, none⟩ = some (.int .i64 a0_0) := (blk_cell BK136.out 0).trans rfl
              have hcz19_1 : w18.cell? ⟨gb136, 1, none⟩ = some (.int .i64 a0_1) := (blk_cell BK136.out 1).trans rfl
              have hcz19_2 : w18.cell? ⟨gb136, 2, none⟩ = some (.int .i64 a0_2) := (blk_cell BK136.out 2).trans rfl
              have hcz19_3 : w18.cell? ⟨gb136, 3, none⟩ = some (.int .i64 a0_3) := (blk_cell BK136.out 3).trans rfl
              have hcz19_4 : w18.cell? ⟨gb136, 4, none⟩ = some (.int .i64 a0_4) := (blk_cell BK136.out 4).trans rfl
              have hcz19_5 : w18.cell? ⟨gb136, 5, none⟩ = some (.int .i64 a0_5) := (blk_cell BK136.out 5).trans rfl
              have hfz19_0 := blk_frozen BK136.out 0
              have hfz19_1 := blk_frozen BK136.out 1
              have hfz19_2 := blk_frozen BK136.out 2
              have hfz19_3 := blk_frozen BK136.out 3
              have hfz19_4 := blk_frozen BK136.out 4
              have hfz19_5 := blk_frozen BK136.out 5
              go_wp2
              rw [rounds_succ]
              go_wp2
              rw [rounds_succ]
              go_wp2
              go_ret
              exact ⟨by first | rfl | (simp [errW_none, errW_some] <;> rfl) | (simp [*, errW_none, errW_some] <;> rfl), by repeat (first | (with_reducible first | exact HB.out | apply below_alloc | apply pw_below_drewN | apply below_drew1 | refine below_set ?_ GE136.out) | exact HB.out)⟩
            · rw [if_neg c17] at H
              have c17b0 : decide (16777216 < a0_2) = false := decide_eq_false c17
              clear c17
              by_cases c20 : a0_3 < (-16777216)
              · rw [if_pos c20] at H
                have c20b0 : decide (a0_3 < (-16777216)) = true := decide_eq_true c20
                clear c20
                obtain rfl := Option.some.inj H
                go_enter Try.func16, Try.ntmps16
                go_wp2_with (first | ((with_reducible refine gate_dst (N := 1) rfl ?_); refine box_event ?hg (N := 1) ?hd (cs := #[.int .i64 a0_0, .int .i64 a0_1, .int .i64 a0_2, .int .i64 a0_3, .int .i64 a0_4, .int .i64 a0_5]) (t := 31) ?hr ?_; (case hd => rfl); (case hg => rfl); (case hr => first | (go_simp; done) | (go_simp; rfl)); intro gb136 hg w21 hbox hb; have n0_ := Aside0.mk (below_step (by repeat (first | (with_reducible first | exact HB.out | apply below_alloc | apply pw_below_drewN | apply below_drew1) | exact HB.out)) hb); have n1_ := Aside0.mk (hbox); have n2_ := Aside0.mk ((by rw [hg]; exact (below_size (by repeat (first | (with_reducible first | exact HB.out | apply below_alloc | apply pw_below_drewN | apply below_drew1) | exact HB.out))) : w.heap.size ≤ gb136)); have n3_ := Aside0.mk ((by rw [hg]; exact (below_size (by repeat (first | (with_reducible first | exact HB.out | apply below_alloc | apply pw_below_drewN | apply below_drew1) | exact HB.out))) : w.heap.size ≤ gb136)); clear HB; have HB := n0_; have BK136 := n1_; have GW136 := n2_; have GE136 := n3_; clear n0_ n1_ n2_ n3_; clear hb hbox hg))
                refine wp_loop_rounds 5 ?_
                rw [rounds_succ]
                have hcz22_0 : w21.cell? ⟨gb136, 0, none⟩ = some (.int .i64 a0_0) := (blk_cell BK136.out 0).trans rfl
                have hcz22_1 : w21.cell? ⟨gb136, 1, none⟩ = some (.int .i64 a0_1) := (blk_cell BK136.out 1).trans rfl
                have hcz22_2 : w21.cell? ⟨gb136, 2, none⟩ = some (.int .i64 a0_2) := (blk_cell BK136.out 2).trans rfl
                have hcz22_3 : w21.cell? ⟨gb136, 3, none⟩ = some (.int .i64 a0_3) := (blk_cell BK136.out 3).trans rfl
                have hcz22_4 : w21.cell? ⟨gb136, 4, none⟩ = some (.int .i64 a0_4) := (blk_cell BK136.out 4).trans rfl
                have hcz22_5 : w21.cell? ⟨gb136, 5, none⟩ = some (.int .i64 a0_5) := (blk_cell BK136.out 5).trans rfl
                have hfz22_0 := blk_frozen BK136.out 0
                have hfz22_1 := blk_frozen BK136.out 1
                have hfz22_2 := blk_frozen BK136.out 2
                have hfz22_3 := blk_frozen BK136.out 3
                have hfz22_4 := blk_frozen BK136.out 4
                have hfz22_5 := blk_frozen BK136.out 5
                go_wp2
                rw [rounds_succ]
                go_wp2
                rw [rounds_succ]
                go_wp2
                rw [rounds_succ]
                go_wp2
                go_ret
                exact ⟨by first | rfl | (simp [errW_none, errW_some] <;> rfl) | (simp [*, errW_none, errW_some] <;> rfl), by repeat (first | (with_reducible first | exact HB.out | apply below_alloc | apply pw_below_drewN | apply below_drew1 | refine below_set ?_ GE136.out) | exact HB.out)⟩
              · rw [if_neg c20] at H
                have c20b0 : decide (a0_3 < (-16777216)) = false := decide_eq_false c20
                clear c20
                by_cases c23 : a0_3 > 16777216
                · rw [if_pos c23] at H
                  have c23b0 : decide (16777216 < a0_3) = true := decide_eq_true c23
                  clear c23
                  obtain rfl := Option.some.inj H
                  go_enter Try.func16, Try.ntmps16
                  go_wp2_with (first | ((with_reducible refine gate_dst (N := 1) rfl ?_); refine box_event ?hg (N := 1) ?hd (cs := #[.int .i64 a0_0, .int .i64 a0_1, .int .i64 a0_2, .int .i64 a0_3, .int .i64 a0_4, .int .i64 a0_5]) (t := 31) ?hr ?_; (case hd => rfl); (case hg => rfl); (case hr => first | (go_simp; done) | (go_simp; rfl)); intro gb136 hg w24 hbox hb; have n0_ := Aside0.mk (below_step (by repeat (first | (with_reducible first | exact HB.out | apply below_alloc | apply pw_below_drewN | apply below_drew1) | exact HB.out)) hb); have n1_ := Aside0.mk (hbox); have n2_ := Aside0.mk ((by rw [hg]; exact (below_size (by repeat (first | (with_reducible first | exact HB.out | apply below_alloc | apply pw_below_drewN | apply below_drew1) | exact HB.out))) : w.heap.size ≤ gb136)); have n3_ := Aside0.mk ((by rw [hg]; exact (below_size (by repeat (first | (with_reducible first | exact HB.out | apply below_alloc | apply pw_below_drewN | apply below_drew1) | exact HB.out))) : w.heap.size ≤ gb136)); clear HB; have HB := n0_; have BK136 := n1_; have GW136 := n2_; have GE136 := n3_; clear n0_ n1_ n2_ n3_; clear hb hbox hg))
                  refine wp_loop_rounds 5 ?_
                  rw [rounds_succ]
                  have hcz25_0 : w24.cell? ⟨gb136, 0, none⟩ = some (.int .i64 a0_0) := (blk_cell BK136.out 0).trans rfl
                  have hcz25_1 : w24.cell? ⟨gb136, 1, none⟩ = some (.int .i64 a0_1) := (blk_cell BK136.out 1).trans rfl
                  have hcz25_2 : w24.cell? ⟨gb136, 2, none⟩ = some (.int .i64 a0_2) := (blk_cell BK136.out 2).trans rfl
                  have hcz25_3 : w24.cell? ⟨gb136, 3, none⟩ = some (.int .i64 a0_3) := (blk_cell BK136.out 3).trans rfl
                  have hcz25_4 : w24.cell? ⟨gb136, 4, none⟩ = some (.int .i64 a0_4) := (blk_cell BK136.out 4).trans rfl
                  have hcz25_5 : w24.cell? ⟨gb136, 5, none⟩ = some (.int .i64 a0_5) := (blk_cell BK136.out 5).trans rfl
                  have hfz25_0 := blk_frozen BK136.out 0
                  have hfz25_1 := blk_frozen BK136.out 1
                  have hfz25_2 := blk_frozen BK136.out 2
                  have hfz25_3 := blk_frozen BK136.out 3
                  have hfz25_4 := blk_frozen BK136.out 4
                  have hfz25_5 := blk_frozen BK136.out 5
                  go_wp2
                  rw [rounds_succ]
                  go_wp2
                  rw [rounds_succ]
                  go_wp2
                  rw [rounds_succ]
                  go_wp2
                  go_ret
                  exact ⟨by first | rfl | (simp [errW_none, errW_some] <;> rfl) | (simp [*, errW_none, errW_some] <;> rfl), by repeat (first | (with_reducible first | exact HB.out | apply below_alloc | apply pw_below_drewN | apply below_drew1 | refine below_set ?_ GE136.out) | exact HB.out)⟩
                · rw [if_neg c23] at H
                  have c23b0 : decide (16777216 < a0_3) = false := decide_eq_false c23
                  clear c23
                  replace H := Option.bind_eq_some_iff.mp H
                  obtain ⟨t137, A260, H⟩ := H
                  replace H : (if t137 = true then ((limnerref01_In.f a0_5).bind fun t138 => (some t138)) else (some false)) = some r := H
                  have A26 := Aside0.mk A260
                  clear A260
                  by_cases c27 : t137 = true
                  · subst c27
                    have H1 : ((limnerref01_In.f a0_5).bind fun t138 => (some t138)) = some r := by rw [if_pos rfl] at H; exact H
                    clear H
                    have H := H1
                    clear H1
                    replace H := Option.bind_eq_some_iff.mp H
                    obtain ⟨t138, A280, H⟩ := H
                    replace H : (some t138) = some r := H
                    have A28 := Aside0.mk A280
                    clear A280
                    obtain rfl := Option.some.inj H
                    go_enter Try.func16, Try.ntmps16
                    go_wp2_with (first | ((with_reducible refine gate_dst (N := 1) rfl ?_); refine box_event ?hg (N := 1) ?hd (cs := #[.int .i64 a0_0, .int .i64 a0_1, .int .i64 a0_2, .int .i64 a0_3, .int .i64 a0_4, .int .i64 a0_5]) (t := 31) ?hr ?_; (case hd => rfl); (case hg => rfl); (case hr => first | (go_simp; done) | (go_simp; rfl)); intro gb136 hg w29 hbox hb; have n0_ := Aside0.mk (below_step (by repeat (first | (with_reducible first | exact HB.out | apply below_alloc | apply pw_below_drewN | apply below_drew1) | exact HB.out)) hb); have n1_ := Aside0.mk (hbox); have n2_ := Aside0.mk ((by rw [hg]; exact (below_size (by repeat (first | (with_reducible first | exact HB.out | apply below_alloc | apply pw_below_drewN | apply below_drew1) | exact HB.out))) : w.heap.size ≤ gb136)); have n3_ := Aside0.mk ((by rw [hg]; exact (below_size (by repeat (first | (with_reducible first | exact HB.out | apply below_alloc | apply pw_below_drewN | apply below_drew1) | exact HB.out))) : w.heap.size ≤ gb136)); clear HB; have HB := n0_; have BK136 := n1_; have GW136 := n2_; have GE136 := n3_; clear n0_ n1_ n2_ n3_; clear hb hbox hg))
                    refine wp_loop_rounds 5 ?_
                    rw [rounds_succ]
                    have hcz30_0 : w29.cell? ⟨gb136, 0, none⟩ = some (.int .i64 a0_0) := (blk_cell BK136.out 0).trans rfl
                    have hcz30_1 : w29.cell? ⟨gb136, 1, none⟩ = some (.int .i64 a0_1) := (blk_cell BK136.out 1).trans rfl
                    have hcz30_2 : w29.cell? ⟨gb136, 2, none⟩ = some (.int .i64 a0_2) := (blk_cell BK136.out 2).trans rfl
                    have hcz30_3 : w29.cell? ⟨gb136, 3, none⟩ = some (.int .i64 a0_3) := (blk_cell BK136.out 3).trans rfl
                    have hcz30_4 : w29.cell? ⟨gb136, 4, none⟩ = some (.int .i64 a0_4) := (blk_cell BK136.out 4).trans rfl
                    have hcz30_5 : w29.cell? ⟨gb136, 5, none⟩ = some (.int .i64 a0_5) := (blk_cell BK136.out 5).trans rfl
                    have hfz30_0 := blk_frozen BK136.out 0
                    have hfz30_1 := blk_frozen BK136.out 1
                    have hfz30_2 := blk_frozen BK136.out 2
                    have hfz30_3 := blk_frozen BK136.out 3
                    have hfz30_4 := blk_frozen BK136.out 4
                    have hfz30_5 := blk_frozen BK136.out 5
                    go_wp2
                    rw [rounds_succ]
                    go_wp2
                    rw [rounds_succ]
                    go_wp2
                    rw [rounds_succ]
                    go_wp2
                    rw [rounds_succ]
                    go_wp2_with (first | ((with_reducible refine gate_callee (f := 26) rfl ?_); refine goesL_ (some 20) rfl rfl Try.func26 (by kernel_rfl) rfl #[.int .i64 a0_4] rfl (by (try simp only [List.map_toArray, List.map_cons, List.map_nil]); first | done | rfl | (simp only [List.length_drop, List.length_take]; rfl)) ?_; (with_reducible refine (limnerref01_In.calls a0_4 true _ A26.out).mono ?_); rintro e w' ⟨rfl, ⟨nd, rfl⟩⟩; refine ⟨_, rfl, ?_⟩) | (go_at_call 26; (with_reducible refine (limnerref01_In.calls a0_5 t138 _ A28.out).mono ?_); rintro e w' ⟨rfl, ⟨nd, rfl⟩⟩))
                    go_ret
                    exact ⟨by first | rfl | (simp [errW_none, errW_some] <;> rfl) | (simp [*, errW_none, errW_some] <;> rfl), by repeat (first | (with_reducible first | exact HB.out | apply below_alloc | apply pw_below_drewN | apply below_drew1 | refine below_set ?_ GE136.out) | exact HB.out)⟩
                  · replace c27 := Bool.eq_false_iff.mpr c27
                    subst c27
                    have H1 : (some false) = some r := by rw [if_neg (show ¬ (false = true) by decide)] at H; exact H
                    clear H
                    have H := H1
                    clear H1
                    obtain rfl := Option.some.inj H
                    go_enter Try.func16, Try.ntmps16
                    go_wp2_with (first | ((with_reducible refine gate_dst (N := 1) rfl ?_); refine box_event ?hg (N := 1) ?hd (cs := #[.int .i64 a0_0, .int .i64 a0_1, .int .i64 a0_2, .int .i64 a0_3, .int .i64 a0_4, .int .i64 a0_5]) (t := 31) ?hr ?_; (case hd => rfl); (case hg => rfl); (case hr => first | (go_simp; done) | (go_simp; rfl)); intro gb136 hg w31 hbox hb; have n0_ := Aside0.mk (below_step (by repeat (first | (with_reducible first | exact HB.out | apply below_alloc | apply pw_below_drewN | apply below_drew1) | exact HB.out)) hb); have n1_ := Aside0.mk (hbox); have n2_ := Aside0.mk ((by rw [hg]; exact (below_size (by repeat (first | (with_reducible first | exact HB.out | apply below_alloc | apply pw_below_drewN | apply below_drew1) | exact HB.out))) : w.heap.size ≤ gb136)); have n3_ := Aside0.mk ((by rw [hg]; exact (below_size (by repeat (first | (with_reducible first | exact HB.out | apply below_alloc | apply pw_below_drewN | apply below_drew1) | exact HB.out))) : w.heap.size ≤ gb136)); clear HB; have HB := n0_; have BK136 := n1_; have GW136 := n2_; have GE136 := n3_; clear n0_ n1_ n2_ n3_; clear hb hbox hg))
                    refine wp_loop_rounds 5 ?_
                    rw [rounds_succ]
                    have hcz32_0 : w31.cell? ⟨gb136, 0, none⟩ = some (.int .i64 a0_0) := (blk_cell BK136.out 0).trans rfl
                    have hcz32_1 : w31.cell? ⟨gb136, 1, none⟩ = some (.int .i64 a0_1) := (blk_cell BK136.out 1).trans rfl
                    have hcz32_2 : w31.cell? ⟨gb136, 2, none⟩ = some (.int .i64 a0_2) := (blk_cell BK136.out 2).trans rfl
                    have hcz32_3 : w31.cell? ⟨gb136, 3, none⟩ = some (.int .i64 a0_3) := (blk_cell BK136.out 3).trans rfl
                    have hcz32_4 : w31.cell? ⟨gb136, 4, none⟩ = some (.int .i64 a0_4) := (blk_cell BK136.out 4).trans rfl
                    have hcz32_5 : w31.cell? ⟨gb136, 5, none⟩ = some (.int .i64 a0_5) := (blk_cell BK136.out 5).trans rfl
                    have hfz32_0 := blk_frozen BK136.out 0
                    have hfz32_1 := blk_frozen BK136.out 1
                    have hfz32_2 := blk_frozen BK136.out 2
                    have hfz32_3 := blk_frozen BK136.out 3
                    have hfz32_4 := blk_frozen BK136.out 4
                    have hfz32_5 := blk_frozen BK136.out 5
                    go_wp2
                    rw [rounds_succ]
                    go_wp2
                    rw [rounds_succ]
                    go_wp2
                    rw [rounds_succ]
                    go_wp2
                    rw [rounds_succ]
                    go_wp2_with (first | ((with_reducible refine gate_callee (f := 26) rfl ?_); refine goesL_ (some 20) rfl rfl Try.func26 (by kernel_rfl) rfl #[.int .i64 a0_4] rfl (by (try simp only [List.map_toArray, List.map_cons, List.map_nil]); first | done | rfl | (simp only [List.length_drop, List.length_take]; rfl)) ?_; (with_reducible refine (limnerref01_In.calls a0_4 false _ A26.out).mono ?_); rintro e w' ⟨rfl, ⟨nd, rfl⟩⟩; refine ⟨_, rfl, ?_⟩))
                    go_ret
                    exact ⟨by first | rfl | (simp [errW_none, errW_some] <;> rfl) | (simp [*, errW_none, errW_some] <;> rfl), by repeat (first | (with_reducible first | exact HB.out | apply below_alloc | apply pw_below_drewN | apply below_drew1 | refine below_set ?_ GE136.out) | exact HB.out)⟩

/-! ### limnerlaw04_ref: function 17 -/
def limnerlaw04_ref.f (a0_0 : Int) (a0_1 : Int) (a0_2 : Int) (a0_3 : Int) (a0_4 : Int) (a0_5 : Int) : Option (Int × Int × Int × Int × Int × Int) := some (a0_0, a0_1, a0_2, a0_3, a0_4, a0_5)
set_option maxHeartbeats 8000000 in
set_option maxRecDepth 100000 in
theorem limnerlaw04_ref.calls (a0_0 : Int) (a0_1 : Int) (a0_2 : Int) (a0_3 : Int) (a0_4 : Int) (a0_5 : Int) (r1 : Int) (r2 : Int) (r3 : Int) (r4 : Int) (r5 : Int) (r6 : Int) (w : World) (h : limnerlaw04_ref.f a0_0 a0_1 a0_2 a0_3 a0_4 a0_5 = some (r1, r2, r3, r4, r5, r6)) :
    Calls Try.prog 17 #[.agg #[.int .i64 a0_0, .int .i64 a0_1, .int .i64 a0_2, .int .i64 a0_3, .int .i64 a0_4, .int .i64 a0_5]] w fun e w' => e = .returned (.agg #[.int .i64 r1, .int .i64 r2, .int .i64 r3, .int .i64 r4, .int .i64 r5, .int .i64 r6]) ∧ Below w.heap.size w w' := by
  have hu23 := Try.underlying23
  have hu31 := Try.underlying31
  have HB := Aside0.mk (Below.refl w.heap.size w)
  have H : (some (a0_0, a0_1, a0_2, a0_3, a0_4, a0_5)) = some (r1, r2, r3, r4, r5, r6) := h
  clear h
  simp only [Option.some.injEq, Prod.mk.injEq] at H
  obtain ⟨rfl, rfl, rfl, rfl, rfl, rfl⟩ := H
  go_enter Try.func17, Try.ntmps17
  go_wp2_with (first | ((with_reducible refine gate_dst (N := 1) rfl ?_); refine box_event ?hg (N := 1) ?hd (cs := #[.int .i64 a0_0, .int .i64 a0_1, .int .i64 a0_2, .int .i64 a0_3, .int .i64 a0_4, .int .i64 a0_5]) (t := 23) ?hr ?_; (case hd => rfl); (case hg => rfl); (case hr => first | (go_simp; done) | (go_simp; rfl)); intro gb139 hg w2 hbox hb; have n0_ := Aside0.mk (below_step (by repeat (first | (with_reducible first | exact HB.out | apply below_alloc | apply pw_below_drewN | apply below_drew1) | exact HB.out)) hb); have n1_ := Aside0.mk (hbox); have n2_ := Aside0.mk ((by rw [hg]; exact (below_size (by repeat (first | (with_reducible first | exact HB.out | apply below_alloc | apply pw_below_drewN | apply below_drew1) | exact HB.out))) : w.heap.size ≤ gb139)); have n3_ := Aside0.mk ((by rw [hg]; exact (below_size (by repeat (first | (with_reducible first | exact HB.out | apply below_alloc | apply pw_below_drewN | apply below_drew1) | exact HB.out))) : w.heap.size ≤ gb139)); clear HB; have HB := n0_; have BK139 := n1_; have GW139 := n2_; have GE139 := n3_; clear n0_ n1_ n2_ n3_; clear hb hbox hg) | ((with_reducible refine gate_dst (N := 2) rfl ?_); refine box_event ?hg (N := 2) ?hd (cs := #[.int .i64 0, .int .i64 0, .int .i64 0, .int .i64 0, .int .i64 0, .int .i64 0]) (t := 31) ?hr ?_; (case hd => rfl); (case hg => rfl); (case hr => first | (go_simp; done) | (go_simp; rfl)); intro gb140 hg w3 hbox hb; have n0_ := Aside0.mk (blk_below (g := gb139) (o := .cells #[.int .i64 a0_0, .int .i64 a0_1, .int .i64 a0_2, .int .i64 a0_3, .int .i64 a0_4, .int .i64 a0_5] 23 (0, 0)) (by (with_reducible repeat (first | refine blk_drewN ?_ _ | refine blk_drew ?_ | refine blk_alloc ?_ _)); exact BK139.out) hb); have n1_ := Aside0.mk (below_step (by repeat (first | (with_reducible first | exact HB.out | apply below_alloc | apply pw_below_drewN | apply below_drew1 | refine below_set ?_ GE139.out) | exact HB.out)) hb); have n2_ := Aside0.mk (hbox); have n3_ := Aside0.mk ((by rw [hg]; exact (below_size (by repeat (first | (with_reducible first | exact HB.out | apply below_alloc | apply pw_below_drewN | apply below_drew1 | refine below_set ?_ GE139.out) | exact HB.out))) : w.heap.size ≤ gb140)); have n4_ := Aside0.mk ((by rw [hg]; exact (below_size (by repeat (first | (with_reducible first | exact HB.out | apply below_alloc | apply pw_below_drewN | apply below_drew1 | refine below_set ?_ GE139.out) | exact HB.out))) : w.heap.size ≤ gb140)); have n5_ := Aside0.mk ((by rw [hg]; exact Nat.ne_of_lt (blk_lt (g := gb139) (o := .cells #[.int .i64 a0_0, .int .i64 a0_1, .int .i64 a0_2, .int .i64 a0_3, .int .i64 a0_4, .int .i64 a0_5] 23 (0, 0)) (by (with_reducible repeat (first | refine blk_drewN ?_ _ | refine blk_drew ?_ | refine blk_alloc ?_ _)); exact BK139.out)) : gb139 ≠ gb140)); have n6_ := Aside0.mk ((by rw [hg]; exact Nat.ne_of_gt (blk_lt (g := gb139) (o := .cells #[.int .i64 a0_0, .int .i64 a0_1, .int .i64 a0_2, .int .i64 a0_3, .int .i64 a0_4, .int .i64 a0_5] 23 (0, 0)) (by (with_reducible repeat (first | refine blk_drewN ?_ _ | refine blk_drew ?_ | refine blk_alloc ?_ _)); exact BK139.out)) : gb140 ≠ gb139)); clear BK139; clear HB; have BK139 := n0_; have HB := n1_; have BK140 := n2_; have GW140 := n3_; have GE140 := n4_; have NB139_140 := n5_; have NB140_139 := n6_; clear n0_ n1_ n2_ n3_ n4_ n5_ n6_; clear hb hbox hg; have hnb4 := NB139_140.out; have hnc4 := NB140_139.out; have hcz5_0 : w3.cell? ⟨gb139, 0, none⟩ = some (.int .i64 a0_0) := (blk_cell BK139.out 0).trans rfl; have hcz5_1 : w3.cell? ⟨gb139, 1, none⟩ = some (.int .i64 a0_1) := (blk_cell BK139.out 1).trans rfl; have hcz5_2 : w3.cell? ⟨gb139, 2, none⟩ = some (.int .i64 a0_2) := (blk_cell BK139.out 2).trans rfl; have hcz5_3 : w3.cell? ⟨gb139, 3, none⟩ = some (.int .i64 a0_3) := (blk_cell BK139.out 3).trans rfl; have hcz5_4 : w3.cell? ⟨gb139, 4, none⟩ = some (.int .i64 a0_4) := (blk_cell BK139.out 4).trans rfl; have hcz5_5 : w3.cell? ⟨gb139, 5, none⟩ = some (.int .i64 a0_5) := (blk_cell BK139.out 5).trans rfl; have hfz5_0 := blk_frozen BK139.out 0; have hfz5_1 := blk_frozen BK139.out 1; have hfz5_2 := blk_frozen BK139.out 2; have hfz5_3 := blk_frozen BK139.out 3; have hfz5_4 := blk_frozen BK139.out 4; have hfz5_5 := blk_frozen BK139.out 5; have hcz6_0 : w3.cell? ⟨gb140, 0, none⟩ = some (.int .i64 0) := (blk_cell BK140.out 0).trans rfl; have hcz6_1 : w3.cell? ⟨gb140, 1, none⟩ = some (.int .i64 0) := (blk_cell BK140.out 1).trans rfl; have hcz6_2 : w3.cell? ⟨gb140, 2, none⟩ = some (.int .i64 0) := (blk_cell BK140.out 2).trans rfl; have hcz6_3 : w3.cell? ⟨gb140, 3, none⟩ = some (.int .i64 0) := (blk_cell BK140.out 3).trans rfl; have hcz6_4 : w3.cell? ⟨gb140, 4, none⟩ = some (.int .i64 0) := (blk_cell BK140.out 4).trans rfl; have hcz6_5 : w3.cell? ⟨gb140, 5, none⟩ = some (.int .i64 0) := (blk_cell BK140.out 5).trans rfl; have hfz6_0 := blk_frozen BK140.out 0; have hfz6_1 := blk_frozen BK140.out 1; have hfz6_2 := blk_frozen BK140.out 2; have hfz6_3 := blk_frozen BK140.out 3; have hfz6_4 := blk_frozen BK140.out 4; have hfz6_5 := blk_frozen BK140.out 5))
  refine bodyPost_ret (results_cell_row rfl _ _ gb140 31 #[.int .i64 a0_0, .int .i64 a0_1, .int .i64 a0_2, .int .i64 a0_3, .int .i64 a0_4, .int .i64 a0_5] (0, 0) _ rfl (by (with_reducible repeat (first | refine blk_drewN ?_ _ | refine blk_drew ?_ | refine blk_alloc ?_ _)); refine blk_put (cs := #[.int .i64 a0_0, .int .i64 a0_1, .int .i64 a0_2, .int .i64 a0_3, .int .i64 a0_4, .int .i64 0]) ?_ 5 _ rfl; (with_reducible repeat (first | refine blk_drewN ?_ _ | refine blk_drew ?_ | refine blk_alloc ?_ _)); refine blk_put (cs := #[.int .i64 a0_0, .int .i64 a0_1, .int .i64 a0_2, .int .i64 a0_3, .int .i64 0, .int .i64 0]) ?_ 4 _ rfl; (with_reducible repeat (first | refine blk_drewN ?_ _ | refine blk_drew ?_ | refine blk_alloc ?_ _)); refine blk_put (cs := #[.int .i64 a0_0, .int .i64 a0_1, .int .i64 a0_2, .int .i64 0, .int .i64 0, .int .i64 0]) ?_ 3 _ rfl; (with_reducible repeat (first | refine blk_drewN ?_ _ | refine blk_drew ?_ | refine blk_alloc ?_ _)); refine blk_put (cs := #[.int .i64 a0_0, .int .i64 a0_1, .int .i64 0, .int .i64 0, .int .i64 0, .int .i64 0]) ?_ 2 _ rfl; (with_reducible repeat (first | refine blk_drewN ?_ _ | refine blk_drew ?_ | refine blk_alloc ?_ _)); refine blk_put (cs := #[.int .i64 a0_0, .int .i64 0, .int .i64 0, .int .i64 0, .int .i64 0, .int .i64 0]) ?_ 1 _ rfl; (with_reducible repeat (first | refine blk_drewN ?_ _ | refine blk_drew ?_ | refine blk_alloc ?_ _)); refine blk_put (cs := #[.int .i64 0, .int .i64 0, .int .i64 0, .int .i64 0, .int .i64 0, .int .i64 0]) ?_ 0 _ rfl; (with_reducible repeat (first | refine blk_drewN ?_ _ | refine blk_drew ?_ | refine blk_alloc ?_ _)); exact BK140.out) Try.underlying31 rfl (by kernel_rfl)) rfl ?_
  exact ⟨by first | rfl | (simp [errW_none, errW_some] <;> rfl) | (simp [*, errW_none, errW_some] <;> rfl), by repeat (first | (with_reducible first | exact HB.out | apply below_alloc | apply pw_below_drewN | apply below_drew1 | refine below_set ?_ GE139.out | refine below_set ?_ GE140.out) | exact HB.out)⟩

/-! ### limnerlaw04_in: function 19 -/
def limnerlaw04_in.f (a0_0 : Int) (a0_1 : Int) : Option (Bool) := (limnerref01_In.f a0_0).bind fun t142 => (if t142 = true then ((limnerref01_In.f a0_1).bind fun t143 => (some t143)) else (some false))
set_option maxHeartbeats 8000000 in
set_option maxRecDepth 100000 in
theorem limnerlaw04_in.calls (a0_0 : Int) (a0_1 : Int) (r : Bool) (w : World) (h : limnerlaw04_in.f a0_0 a0_1 = some r) :
    Calls Try.prog 19 #[.agg #[.int .i64 a0_0, .int .i64 a0_1]] w fun e w' => e = .returned (.bool r) ∧ Below w.heap.size w w' := by
  have hu25 := Try.underlying25
  have HB := Aside0.mk (Below.refl w.heap.size w)
  have H : ((limnerref01_In.f a0_0).bind fun t142 => (if t142 = true then ((limnerref01_In.f a0_1).bind fun t143 => (some t143)) else (some false))) = some r := h
  clear h
  replace H := Option.bind_eq_some_iff.mp H
  obtain ⟨t142, A20, H⟩ := H
  replace H : (if t142 = true then ((limnerref01_In.f a0_1).bind fun t143 => (some t143)) else (some false)) = some r := H
  have A2 := Aside0.mk A20
  clear A20
  by_cases c3 : t142 = true
  · subst c3
    have H1 : ((limnerref01_In.f a0_1).bind fun t143 => (some t143)) = some r := by rw [if_pos rfl] at H; exact H
    clear H
    have H := H1
    clear H1
    replace H := Option.bind_eq_some_iff.mp H
    obtain ⟨t143, A40, H⟩ := H
    replace H : (some t143) = some r := H
    have A4 := Aside0.mk A40
    clear A40
    obtain rfl := Option.some.inj H
    go_enter Try.func19, Try.ntmps19
    go_wp2_with (first | ((with_reducible refine gate_dst (N := 1) rfl ?_); refine box_event ?hg (N := 1) ?hd (cs := #[.int .i64 a0_0, .int .i64 a0_1]) (t := 25) ?hr ?_; (case hd => rfl); (case hg => rfl); (case hr => first | (go_simp; done) | (go_simp; rfl)); intro gb141 hg w5 hbox hb; have n0_ := Aside0.mk (below_step (by repeat (first | (with_reducible first | exact HB.out | apply below_alloc | apply pw_below_drewN | apply below_drew1) | exact HB.out)) hb); have n1_ := Aside0.mk (hbox); have n2_ := Aside0.mk ((by rw [hg]; exact (below_size (by repeat (first | (with_reducible first | exact HB.out | apply below_alloc | apply pw_below_drewN | apply below_drew1) | exact HB.out))) : w.heap.size ≤ gb141)); have n3_ := Aside0.mk ((by rw [hg]; exact (below_size (by repeat (first | (with_reducible first | exact HB.out | apply below_alloc | apply pw_below_drewN | apply below_drew1) | exact HB.out))) : w.heap.size ≤ gb141)); clear HB; have HB := n0_; have BK141 := n1_; have GW141 := n2_; have GE141 := n3_; clear n0_ n1_ n2_ n3_; clear hb hbox hg; have hcz6_0 : w5.cell? ⟨gb141, 0, none⟩ = some (.int .i64 a0_0) := (blk_cell BK141.out 0).trans rfl; have hcz6_1 : w5.cell? ⟨gb141, 1, none⟩ = some (.int .i64 a0_1) := (blk_cell BK141.out 1).trans rfl; have hfz6_0 := blk_frozen BK141.out 0; have hfz6_1 := blk_frozen BK141.out 1) | ((with_reducible refine gate_callee (f := 26) rfl ?_); refine goesL_ (some 5) rfl rfl Try.func26 (by kernel_rfl) rfl #[.int .i64 a0_0] rfl (by (try simp only [List.map_toArray, List.map_cons, List.map_nil]); first | done | rfl | (simp only [List.length_drop, List.length_take]; rfl)) ?_; (with_reducible refine (limnerref01_In.calls a0_0 true _ A2.out).mono ?_); rintro e w' ⟨rfl, ⟨nd, rfl⟩⟩; refine ⟨_, rfl, ?_⟩) | (go_at_call 26; (with_reducible refine (limnerref01_In.calls a0_1 t143 _ A4.out).mono ?_); rintro e w' ⟨rfl, ⟨nd, rfl⟩⟩))
    go_ret
    exact ⟨by first | rfl | (simp [errW_none, errW_some] <;> rfl) | (simp [*, errW_none, errW_some] <;> rfl), by repeat (first | (with_reducible first | exact HB.out | apply below_alloc | apply pw_below_drewN | apply below_drew1 | refine below_set ?_ GE141.out) | exact HB.out)⟩
  · replace c3 := Bool.eq_false_iff.mpr c3
    subst c3
    have H1 : (some false) = some r := by rw [if_neg (show ¬ (false = true) by decide)] at H; exact H
    clear H
    have H := H1
    clear H1
    obtain rfl := Option.some.inj H
    go_enter Try.func19, Try.ntmps19
    go_wp2_with (first | ((with_reducible refine gate_dst (N := 1) rfl ?_); refine box_event ?hg (N := 1) ?hd (cs := #[.int .i64 a0_0, .int .i64 a0_1]) (t := 25) ?hr ?_; (case hd => rfl); (case hg => rfl); (case hr => first | (go_simp; done) | (go_simp; rfl)); intro gb141 hg w7 hbox hb; have n0_ := Aside0.mk (below_step (by repeat (first | (with_reducible first | exact HB.out | apply below_alloc | apply pw_below_drewN | apply below_drew1) | exact HB.out)) hb); have n1_ := Aside0.mk (hbox); have n2_ := Aside0.mk ((by rw [hg]; exact (below_size (by repeat (first | (with_reducible first | exact HB.out | apply below_alloc | apply pw_below_drewN | apply below_drew1) | exact HB.out))) : w.heap.size ≤ gb141)); have n3_ := Aside0.mk ((by rw [hg]; exact (below_size (by repeat (first | (with_reducible first | exact HB.out | apply below_alloc | apply pw_below_drewN | apply below_drew1) | exact HB.out))) : w.heap.size ≤ gb141)); clear HB; have HB := n0_; have BK141 := n1_; have GW141 := n2_; have GE141 := n3_; clear n0_ n1_ n2_ n3_; clear hb hbox hg; have hcz8_0 : w7.cell? ⟨gb141, 0, none⟩ = some (.int .i64 a0_0) := (blk_cell BK141.out 0).trans rfl; have hcz8_1 : w7.cell? ⟨gb141, 1, none⟩ = some (.int .i64 a0_1) := (blk_cell BK141.out 1).trans rfl; have hfz8_0 := blk_frozen BK141.out 0; have hfz8_1 := blk_frozen BK141.out 1) | ((with_reducible refine gate_callee (f := 26) rfl ?_); refine goesL_ (some 5) rfl rfl Try.func26 (by kernel_rfl) rfl #[.int .i64 a0_0] rfl (by (try simp only [List.map_toArray, List.map_cons, List.map_nil]); first | done | rfl | (simp only [List.length_drop, List.length_take]; rfl)) ?_; (with_reducible refine (limnerref01_In.calls a0_0 false _ A2.out).mono ?_); rintro e w' ⟨rfl, ⟨nd, rfl⟩⟩; refine ⟨_, rfl, ?_⟩))
    go_ret
    exact ⟨by first | rfl | (simp [errW_none, errW_some] <;> rfl) | (simp [*, errW_none, errW_some] <;> rfl), by repeat (first | (with_reducible first | exact HB.out | apply below_alloc | apply pw_below_drewN | apply below_drew1 | refine below_set ?_ GE141.out) | exact HB.out)⟩

/-! ### limnerref01_Below: function 64 -/
def limnerref01_Below.f (a0 : Int) (a1 : Int) : Option (Int) := if a1 = 0 then (none) else (if (wrap64 ((wrap64 (Int.tdiv a0 a1)) * a1)) > a0 then (some (wrap64 ((wrap64 (Int.tdiv a0 a1)) - 1))) else (some (wrap64 (Int.tdiv a0 a1))))
set_option maxHeartbeats 8000000 in
set_option maxRecDepth 100000 in
theorem limnerref01_Below.calls (a0 : Int) (a1 : Int) (r : Int) (w : World) (h : limnerref01_Below.f a0 a1 = some r) :
    Calls Try.prog 64 #[.int .i64 a0, .int .i64 a1] w fun e w' => e = .returned (.int .i64 r) ∧ Drawn0 w w' := by
  have H : (if a1 = 0 then (none) else (if (wrap64 ((wrap64 (Int.tdiv a0 a1)) * a1)) > a0 then (some (wrap64 ((wrap64 (Int.tdiv a0 a1)) - 1))) else (some (wrap64 (Int.tdiv a0 a1))))) = some r := h
  clear h
  by_cases c3 : a1 = 0
  · rw [if_pos c3] at H
    exact absurd H (by simp)
  · rw [if_neg c3] at H
    have c3b0 : (a1 == 0) = false := beq_eq_false_iff_ne.mpr c3
    have c3b1 : (a1 != 0) = true := bne_iff_ne.mpr c3
    by_cases c4 : (wrap64 ((wrap64 (Int.tdiv a0 a1)) * a1)) > a0
    · rw [if_pos c4] at H
      have c4b0 : decide (a0 < (wrap64 ((wrap64 (Int.tdiv a0 a1)) * a1))) = true := decide_eq_true c4
      clear c4
      obtain rfl := Option.some.inj H
      go_enter Try.func64, Try.ntmps64
      go_wp2
      go_ret
      exact ⟨by first | rfl | (simp; done) | (simp [*]; done), by repeat (first | exact Drawn0.refl _ | apply Drawn0.step)⟩
    · rw [if_neg c4] at H
      have c4b0 : decide (a0 < (wrap64 ((wrap64 (Int.tdiv a0 a1)) * a1))) = false := decide_eq_false c4
      clear c4
      obtain rfl := Option.some.inj H
      go_enter Try.func64, Try.ntmps64
      go_wp2
      go_ret
      exact ⟨by first | rfl | (simp; done) | (simp [*]; done), by repeat (first | exact Drawn0.refl _ | apply Drawn0.step)⟩

/-! ### limnerref01_Round: function 53 -/
def limnerref01_Round.f (a0 : Int) (a1 : Int) : Option (Int) := (limnerref01_Below.f a0 a1).bind fun t144 => (if (wrap64 (a0 - (wrap64 (t144 * a1)))) ≥ (wrap64 (a1 - (wrap64 (a0 - (wrap64 (t144 * a1)))))) then (some (wrap64 (t144 + 1))) else (some t144))
set_option maxHeartbeats 8000000 in
set_option maxRecDepth 100000 in
theorem limnerref01_Round.calls (a0 : Int) (a1 : Int) (r : Int) (w : World) (h : limnerref01_Round.f a0 a1 = some r) :
    Calls Try.prog 53 #[.int .i64 a0, .int .i64 a1] w fun e w' => e = .returned (.int .i64 r) ∧ Drawn0 w w' := by
  have H : ((limnerref01_Below.f a0 a1).bind fun t144 => (if (wrap64 (a0 - (wrap64 (t144 * a1)))) ≥ (wrap64 (a1 - (wrap64 (a0 - (wrap64 (t144 * a1)))))) then (some (wrap64 (t144 + 1))) else (some t144))) = some r := h
  clear h
  replace H := Option.bind_eq_some_iff.mp H
  obtain ⟨t144, A30, H⟩ := H
  replace H : (if (wrap64 (a0 - (wrap64 (t144 * a1)))) ≥ (wrap64 (a1 - (wrap64 (a0 - (wrap64 (t144 * a1)))))) then (some (wrap64 (t144 + 1))) else (some t144)) = some r := H
  have A3 := Aside0.mk A30
  clear A30
  by_cases c4 : (wrap64 (a0 - (wrap64 (t144 * a1)))) ≥ (wrap64 (a1 - (wrap64 (a0 - (wrap64 (t144 * a1))))))
  · rw [if_pos c4] at H
    have c4b0 : decide ((wrap64 (a1 - (wrap64 (a0 - (wrap64 (t144 * a1)))))) ≤ (wrap64 (a0 - (wrap64 (t144 * a1))))) = true := decide_eq_true c4
    clear c4
    obtain rfl := Option.some.inj H
    go_enter Try.func53, Try.ntmps53
    go_wp2_with (first | ((with_reducible refine gate_callee (f := 64) rfl ?_); refine goesL_ (some 9) rfl rfl Try.func64 (by kernel_rfl) rfl #[.int .i64 a0, .int .i64 a1] rfl (by (try simp only [List.map_toArray, List.map_cons, List.map_nil]); first | done | rfl | (simp only [List.length_drop, List.length_take]; rfl)) ?_; (with_reducible refine (limnerref01_Below.calls a0 a1 t144 _ A3.out).mono ?_); rintro e w' ⟨rfl, ⟨nd, rfl⟩⟩; refine ⟨_, rfl, ?_⟩))
    go_ret
    exact ⟨by first | rfl | (simp; done) | (simp [*]; done), by repeat (first | exact Drawn0.refl _ | apply Drawn0.step)⟩
  · rw [if_neg c4] at H
    have c4b0 : decide ((wrap64 (a1 - (wrap64 (a0 - (wrap64 (t144 * a1)))))) ≤ (wrap64 (a0 - (wrap64 (t144 * a1))))) = false := decide_eq_false c4
    clear c4
    obtain rfl := Option.some.inj H
    go_enter Try.func53, Try.ntmps53
    go_wp2_with (first | ((with_reducible refine gate_callee (f := 64) rfl ?_); refine goesL_ (some 9) rfl rfl Try.func64 (by kernel_rfl) rfl #[.int .i64 a0, .int .i64 a1] rfl (by (try simp only [List.map_toArray, List.map_cons, List.map_nil]); first | done | rfl | (simp only [List.length_drop, List.length_take]; rfl)) ?_; (with_reducible refine (limnerref01_Below.calls a0 a1 t144 _ A3.out).mono ?_); rintro e w' ⟨rfl, ⟨nd, rfl⟩⟩; refine ⟨_, rfl, ?_⟩))
    go_ret
    exact ⟨by first | rfl | (simp; done) | (simp [*]; done), by repeat (first | exact Drawn0.refl _ | apply Drawn0.step)⟩

end Go.Proofs.Ytkneefkhggacmaa.X
