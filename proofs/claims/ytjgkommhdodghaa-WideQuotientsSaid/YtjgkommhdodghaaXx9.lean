/- Functions of this part, each as a plain Lean function, and a proof that the machine comes to just what it says; written by a program of this session (xprint.py, over the kit's print). Conditions: those that each theorem names. -/
import Derived.Test.YtjgkommhdodghaaXx0
import Derived.Test.YtjgkommhdodghaaXx3
namespace Go.Proofs.Ytjgkommhdodghaa.X
open Go.Proofs.Ytjgkommhdodghaa
open Go.RowKit Go.Proofs.YtjgkommhdodghaaW.PrintWords Go.Proofs.YtjgkommhdodghaaW.PrintLast Go.Proofs.YtjgkommhdodghaaW.PrintMore
attribute [local go_sem] max2_int min2_int max_two min_two max_three min_three max_four min_four   -- for this text's walks alone
set_option linter.unusedVariables false
set_option linter.unusedSimpArgs false

-- NOT PRINTED: function 25 (limnerref02_Less)

/-! ### wide_Num_Sign: function 26 -/
def wide_Num_Sign.f (k : Nat) (a0_0 : Int) (a0_1 : Int) : Option (Int) := (wide_Num_Cmp.f k a0_0 a0_1 0 0).bind fun t230 => (some t230)
theorem wide_Num_Sign.mono : ∀ a0 a1 k, LeO (wide_Num_Sign.f k a0 a1) (wide_Num_Sign.f (k + 1) a0 a1) := by
  intro a0 a1 k
  unfold wide_Num_Sign.f
  repeat' first
      | (with_reducible exact wide_Num_Cmp.mono _ _ _ _ _)
      | (with_reducible exact LeO.refl _)
      | (with_reducible exact LeO.none _)
      | (with_reducible refine LeO.ite ?_ ?_)
      | (with_reducible refine LeO.bind ?_ (fun _ => ?_))
      | exact wide_Num_Cmp.mono _ _ _ _ _
      | exact LeO.none _
      | refine LeO.ite ?_ ?_
      | refine LeO.bind ?_ (fun _ => ?_)
set_option maxHeartbeats 8000000 in
set_option maxRecDepth 100000 in
theorem wide_Num_Sign.calls (k : Nat) (a0_0 : Int) (a0_1 : Int) (r : Int) (w : World) (h : wide_Num_Sign.f k a0_0 a0_1 = some r) :
    Calls Try.prog 26 #[.agg #[.int .i64 a0_0, .int .u64 a0_1]] w fun e w' => e = .returned (.int .i64 r) ∧ Below w.heap.size w w' := by
  have hu24 := Try.underlying24
  have HB := Aside0.mk (Below.refl w.heap.size w)
  have H : ((wide_Num_Cmp.f k a0_0 a0_1 0 0).bind fun t230 => (some t230)) = some r := h
  clear h
  replace H := Option.bind_eq_some_iff.mp H
  obtain ⟨t230, A20, H⟩ := H
  replace H : (some t230) = some r := H
  have A2 := Aside0.mk A20
  clear A20
  obtain rfl := Option.some.inj H
  go_enter Try.func26, Try.ntmps26
  go_wp2_with (first | ((with_reducible refine gate_dst (N := 1) rfl ?_); refine box_event ?hg (N := 1) ?hd (cs := #[.int .i64 a0_0, .int .u64 a0_1]) (t := 24) ?hr ?_; (case hd => rfl); (case hg => rfl); (case hr => first | (go_simp; done) | (go_simp; rfl)); intro gb229 hg w3 hbox hb; have n0_ := Aside0.mk (below_step (by repeat (first | (with_reducible first | exact HB.out | apply below_alloc | apply pw_below_drewN | apply below_drew1) | exact HB.out)) hb); have n1_ := Aside0.mk (hbox); have n2_ := Aside0.mk ((by rw [hg]; exact (below_size (by repeat (first | (with_reducible first | exact HB.out | apply below_alloc | apply pw_below_drewN | apply below_drew1) | exact HB.out))) : w.heap.size ≤ gb229)); have n3_ := Aside0.mk ((by rw [hg]; exact (below_size (by repeat (first | (with_reducible first | exact HB.out | apply below_alloc | apply pw_below_drewN | apply below_drew1) | exact HB.out))) : w.heap.size ≤ gb229)); clear HB; have HB := n0_; have BK229 := n1_; have GW229 := n2_; have GE229 := n3_; clear n0_ n1_ n2_ n3_; clear hb hbox hg; have hcz4_0 : w3.cell? ⟨gb229, 0, none⟩ = some (.int .i64 a0_0) := (blk_cell BK229.out 0).trans rfl; have hcz4_1 : w3.cell? ⟨gb229, 1, none⟩ = some (.int .u64 a0_1) := (blk_cell BK229.out 1).trans rfl; have hfz4_0 := blk_frozen BK229.out 0; have hfz4_1 := blk_frozen BK229.out 1) | ((with_reducible refine gate_callee (f := 23) rfl ?_); refine goesL_ (some 5) rfl rfl Try.func23 (by kernel_rfl) rfl #[.agg #[.int .i64 a0_0, .int .u64 a0_1], .agg #[.int .i64 0, .int .u64 0]] rfl (by (try simp only [List.map_toArray, List.map_cons, List.map_nil]); first | done | rfl | (simp only [List.length_drop, List.length_take]; rfl)) ?_; (with_reducible refine (wide_Num_Cmp.calls k a0_0 a0_1 0 0 t230 _ A2.out).mono ?_); rintro e w5 ⟨rfl, hb⟩; refine ⟨_, rfl, ?_⟩; have n0_ := Aside0.mk (blk_below (g := gb229) (o := .cells #[.int .i64 a0_0, .int .u64 a0_1] 24 (0, 0)) (by (with_reducible repeat (first | refine blk_drewN ?_ _ | refine blk_drew ?_ | refine blk_alloc ?_ _)); exact BK229.out) hb); have n1_ := Aside0.mk (below_step (by repeat (first | (with_reducible first | exact HB.out | apply below_alloc | apply pw_below_drewN | apply below_drew1 | refine below_set ?_ GE229.out) | exact HB.out)) hb); clear BK229; clear HB; have BK229 := n0_; have HB := n1_; clear n0_ n1_; (try clear hb); (try clear hb2); (try clear hk); (try clear hi)))
  go_ret
  exact ⟨by first | rfl | (simp [errW_none, errW_some] <;> rfl) | (simp [*, errW_none, errW_some] <;> rfl), by repeat (first | (with_reducible first | exact HB.out | apply below_alloc | apply pw_below_drewN | apply below_drew1 | refine below_set ?_ GE229.out) | exact HB.out)⟩

-- NOT PRINTED: function 7 (limnerlaw02_WideOrder)

end Go.Proofs.Ytjgkommhdodghaa.X
