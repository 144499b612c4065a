/- Functions of this part, each as a plain Lean function, and a proof that the machine comes to just what it says; written by a program of this session (xprint.py, over the kit's print). Conditions: those that each theorem names. -/
import Derived.Test.YtjgkommhdodghaaXx0
import Derived.Test.YtjgkommhdodghaaXx2
import Derived.Test.YtjgkommhdodghaaXx3
import Derived.Test.YtjgkommhdodghaaXx6
namespace Go.Proofs.Ytjgkommhdodghaa.X
open Go.Proofs.Ytjgkommhdodghaa
open Go.RowKit Go.Proofs.YtjgkommhdodghaaW.PrintWords Go.Proofs.YtjgkommhdodghaaW.PrintLast Go.Proofs.YtjgkommhdodghaaW.PrintMore
attribute [local go_sem] max2_int min2_int max_two min_two max_three min_three max_four min_four   -- for this text's walks alone
set_option linter.unusedVariables false
set_option linter.unusedSimpArgs false

/-! ### limnerlaw02_WideRoots: function 5 -/
def limnerlaw02_WideRoots.f (k : Nat) (a0 : Int) : Option (Bool) := (wide_Sqrt.f k a0).bind fun t161 => (if a0 < 0 then (if t161 = 0 then ((limnerlaw02_awake.f k).bind fun t162 => (some t162)) else (none)) else (if t161 ≥ 0 then (if t161 < 4294967296 then ((wide_Mul.f t161 t161).bind fun bt163 => ((wide_Of.f a0).bind fun bt165 => ((wide_Num_Cmp.f k bt163.1 bt163.2 bt165.1 bt165.2).bind fun t167 => (if t167 ≤ 0 then ((wide_Mul.f (wrap64 (t161 + 1)) (wrap64 (t161 + 1))).bind fun bt168 => ((wide_Of.f a0).bind fun bt170 => ((wide_Num_Cmp.f k bt168.1 bt168.2 bt170.1 bt170.2).bind fun t172 => (if t172 > 0 then ((limnerlaw02_awake.f k).bind fun t173 => (some t173)) else (none))))) else (none))))) else (none)) else (none)))
theorem limnerlaw02_WideRoots.mono : ∀ a0 k, LeO (limnerlaw02_WideRoots.f k a0) (limnerlaw02_WideRoots.f (k + 1) a0) := by
  intro a0 k
  unfold limnerlaw02_WideRoots.f
  repeat' first
      | (with_reducible exact limnerlaw02_awake.mono _)
      | (with_reducible exact wide_Num_Cmp.mono _ _ _ _ _)
      | (with_reducible exact wide_Sqrt.mono _ _)
      | (with_reducible exact LeO.refl _)
      | (with_reducible exact LeO.none _)
      | (with_reducible refine LeO.ite ?_ ?_)
      | (with_reducible refine LeO.bind ?_ (fun _ => ?_))
      | exact limnerlaw02_awake.mono _
      | exact wide_Num_Cmp.mono _ _ _ _ _
      | exact wide_Sqrt.mono _ _
      | exact LeO.none _
      | refine LeO.ite ?_ ?_
      | refine LeO.bind ?_ (fun _ => ?_)
set_option maxHeartbeats 8000000 in
set_option maxRecDepth 100000 in
theorem limnerlaw02_WideRoots.calls (k : Nat) (a0 : Int) (r : Bool) (w : World) (h : limnerlaw02_WideRoots.f k a0 = some r) :
    Calls Try.prog 5 #[.int .i64 a0] w fun e w' => e = .returned (.bool r) ∧ Below w.heap.size w w' := by
  have HB := Aside0.mk (Below.refl w.heap.size w)
  have H : ((wide_Sqrt.f k a0).bind fun t161 => (if a0 < 0 then (if t161 = 0 then ((limnerlaw02_awake.f k).bind fun t162 => (some t162)) else (none)) else (if t161 ≥ 0 then (if t161 < 4294967296 then ((wide_Mul.f t161 t161).bind fun bt163 => ((wide_Of.f a0).bind fun bt165 => ((wide_Num_Cmp.f k bt163.1 bt163.2 bt165.1 bt165.2).bind fun t167 => (if t167 ≤ 0 then ((wide_Mul.f (wrap64 (t161 + 1)) (wrap64 (t161 + 1))).bind fun bt168 => ((wide_Of.f a0).bind fun bt170 => ((wide_Num_Cmp.f k bt168.1 bt168.2 bt170.1 bt170.2).bind fun t172 => (if t172 > 0 then ((limnerlaw02_awake.f k).bind fun t173 => (some t173)) else (none))))) else (none))))) else (none)) else (none)))) = some r := h
  clear h
  replace H := Option.bind_eq_some_iff.mp H
  obtain ⟨t161, A20, H⟩ := H
  replace H : (if a0 < 0 then (if t161 = 0 then ((limnerlaw02_awake.f k).bind fun t162 => (some t162)) else (none)) else (if t161 ≥ 0 then (if t161 < 4294967296 then ((wide_Mul.f t161 t161).bind fun bt163 => ((wide_Of.f a0).bind fun bt165 => ((wide_Num_Cmp.f k bt163.1 bt163.2 bt165.1 bt165.2).bind fun t167 => (if t167 ≤ 0 then ((wide_Mul.f (wrap64 (t161 + 1)) (wrap64 (t161 + 1))).bind fun bt168 => ((wide_Of.f a0).bind fun bt170 => ((wide_Num_Cmp.f k bt168.1 bt168.2 bt170.1 bt170.2).bind fun t172 => (if t172 > 0 then ((limnerlaw02_awake.f k).bind fun t173 => (some t173)) else (none))))) else (none))))) else (none)) else (none))) = some r := H
  have A2 := Aside0.mk A20
  clear A20
  by_cases c3 : a0 < 0
  · rw [if_pos c3] at H
    have c3b0 : decide (a0 < 0) = true := decide_eq_true c3
    clear c3
    by_cases c4 : t161 = 0
    · rw [if_pos c4] at H
      have c4b0 : (t161 == 0) = true := beq_iff_eq.mpr c4
      have c4b1 : (t161 != 0) = false := bne_eq_false_iff_eq.mpr c4
      clear c4
      replace H := Option.bind_eq_some_iff.mp H
      obtain ⟨t162, A50, H⟩ := H
      replace H : (some t162) = some r := H
      have A5 := Aside0.mk A50
      clear A50
      obtain rfl := Option.some.inj H
      go_enter Try.func5, Try.ntmps5
      go_wp2_with (first | ((with_reducible refine gate_callee (f := 22) rfl ?_); refine goesL_ (some 5) rfl rfl Try.func22 (by kernel_rfl) rfl #[.int .i64 a0] rfl (by (try simp only [List.map_toArray, List.map_cons, List.map_nil]); first | done | rfl | (simp only [List.length_drop, List.length_take]; rfl)) ?_; (with_reducible refine (wide_Sqrt.calls k a0 t161 _ A2.out).mono ?_); rintro e w6 ⟨rfl, hb⟩; refine ⟨_, rfl, ?_⟩; have n0_ := Aside0.mk (below_step (by repeat (first | (with_reducible first | exact HB.out | apply below_alloc | apply pw_below_drewN | apply below_drew1) | exact HB.out)) hb); clear HB; have HB := n0_; clear n0_; (try clear hb); (try clear hb2); (try clear hk); (try clear hi)) | (go_at_call 17; (with_reducible refine (limnerlaw02_awake.calls k  t162 _ A5.out).mono ?_); rintro e w7 ⟨rfl, hb⟩; have n0_ := Aside0.mk (below_step (by repeat (first | (with_reducible first | exact HB.out | apply below_alloc | apply pw_below_drewN | apply below_drew1) | exact HB.out)) hb); clear HB; have HB := n0_; clear n0_; (try clear hb); (try clear hb2); (try clear hk); (try clear hi)))
      go_ret
      exact ⟨by first | rfl | (simp [errW_none, errW_some] <;> rfl) | (simp [*, errW_none, errW_some] <;> rfl), by repeat (first | (with_reducible first | exact HB.out | apply below_alloc | apply pw_below_drewN | apply below_drew1) | exact HB.out)⟩
    · rw [if_neg c4] at H
      exact absurd H (by simp)
  · rw [if_neg c3] at H
    have c3b0 : decide (a0 < 0) = false := decide_eq_false c3
    clear c3
    by_cases c8 : t161 ≥ 0
    · rw [if_pos c8] at H
      have c8b0 : decide (0 ≤ t161) = true := decide_eq_true c8
      clear c8
      by_cases c9 : t161 < 4294967296
      · rw [if_pos c9] at H
        have c9b0 : decide (t161 < 4294967296) = true := decide_eq_true c9
        clear c9
        replace H := Option.bind_eq_some_iff.mp H
        obtain ⟨⟨t163, t164⟩, A100, H⟩ := H
        replace H : ((wide_Of.f a0).bind fun bt165 => ((wide_Num_Cmp.f k t163 t164 bt165.1 bt165.2).bind fun t167 => (if t167 ≤ 0 then ((wide_Mul.f (wrap64 (t161 + 1)) (wrap64 (t161 + 1))).bind fun bt168 => ((wide_Of.f a0).bind fun bt170 => ((wide_Num_Cmp.f k bt168.1 bt168.2 bt170.1 bt170.2).bind fun t172 => (if t172 > 0 then ((limnerlaw02_awake.f k).bind fun t173 => (some t173)) else (none))))) else (none)))) = some r := H
        have A10 := Aside0.mk A100
        clear A100
        replace H := Option.bind_eq_some_iff.mp H
        obtain ⟨⟨t165, t166⟩, A110, H⟩ := H
        replace H : ((wide_Num_Cmp.f k t163 t164 t165 t166).bind fun t167 => (if t167 ≤ 0 then ((wide_Mul.f (wrap64 (t161 + 1)) (wrap64 (t161 + 1))).bind fun bt168 => ((wide_Of.f a0).bind fun bt170 => ((wide_Num_Cmp.f k bt168.1 bt168.2 bt170.1 bt170.2).bind fun t172 => (if t172 > 0 then ((limnerlaw02_awake.f k).bind fun t173 => (some t173)) else (none))))) else (none))) = some r := H
        have A11 := Aside0.mk A110
        clear A110
        replace H := Option.bind_eq_some_iff.mp H
        obtain ⟨t167, A120, H⟩ := H
        replace H : (if t167 ≤ 0 then ((wide_Mul.f (wrap64 (t161 + 1)) (wrap64 (t161 + 1))).bind fun bt168 => ((wide_Of.f a0).bind fun bt170 => ((wide_Num_Cmp.f k bt168.1 bt168.2 bt170.1 bt170.2).bind fun t172 => (if t172 > 0 then ((limnerlaw02_awake.f k).bind fun t173 => (some t173)) else (none))))) else (none)) = some r := H
        have A12 := Aside0.mk A120
        clear A120
        by_cases c13 : t167 ≤ 0
        · rw [if_pos c13] at H
          have c13b0 : decide (t167 ≤ 0) = true := decide_eq_true c13
          clear c13
          replace H := Option.bind_eq_some_iff.mp H
          obtain ⟨⟨t168, t169⟩, A140, H⟩ := H
          replace H : ((wide_Of.f a0).bind fun bt170 => ((wide_Num_Cmp.f k t168 t169 bt170.1 bt170.2).bind fun t172 => (if t172 > 0 then ((limnerlaw02_awake.f k).bind fun t173 => (some t173)) else (none)))) = some r := H
          have A14 := Aside0.mk A140
          clear A140
          replace H := Option.bind_eq_some_iff.mp H
          obtain ⟨⟨t170, t171⟩, A150, H⟩ := H
          have E16 := A11.out.symm.trans A150
          simp only [Option.some.injEq, Prod.mk.injEq] at E16
          obtain ⟨rfl, rfl⟩ := E16
          replace H : ((wide_Num_Cmp.f k t168 t169 t165 t166).bind fun t172 => (if t172 > 0 then ((limnerlaw02_awake.f k).bind fun t173 => (some t173)) else (none))) = some r := H
          have A15 := Aside0.mk A150
          clear A150
          replace H := Option.bind_eq_some_iff.mp H
          obtain ⟨t172, A170, H⟩ := H
          replace H : (if t172 > 0 then ((limnerlaw02_awake.f k).bind fun t173 => (some t173)) else (none)) = some r := H
          have A17 := Aside0.mk A170
          clear A170
          by_cases c18 : t172 > 0
          · rw [if_pos c18] at H
            have c18b0 : decide (0 < t172) = true := decide_eq_true c18
            clear c18
            replace H := Option.bind_eq_some_iff.mp H
            obtain ⟨t173, A190, H⟩ := H
            replace H : (some t173) = some r := H
            have A19 := Aside0.mk A190
            clear A190
            obtain rfl := Option.some.inj H
            go_enter Try.func5, Try.ntmps5
            go_wp2_with (first | ((with_reducible refine gate_callee (f := 22) rfl ?_); refine goesL_ (some 5) rfl rfl Try.func22 (by kernel_rfl) rfl #[.int .i64 a0] rfl (by (try simp only [List.map_toArray, List.map_cons, List.map_nil]); first | done | rfl | (simp only [List.length_drop, List.length_take]; rfl)) ?_; (with_reducible refine (wide_Sqrt.calls k a0 t161 _ A2.out).mono ?_); rintro e w20 ⟨rfl, hb⟩; refine ⟨_, rfl, ?_⟩; have n0_ := Aside0.mk (below_step (by repeat (first | (with_reducible first | exact HB.out | apply below_alloc | apply pw_below_drewN | apply below_drew1) | exact HB.out)) hb); clear HB; have HB := n0_; clear n0_; (try clear hb); (try clear hb2); (try clear hk); (try clear hi)) | (go_at_call 18; (with_reducible refine (wide_Mul.calls t161 t161 t163 t164 _ A10.out).mono ?_); rintro e w21 ⟨rfl, hb⟩; have n0_ := Aside0.mk (below_step (by repeat (first | (with_reducible first | exact HB.out | apply below_alloc | apply pw_below_drewN | apply below_drew1) | exact HB.out)) hb); clear HB; have HB := n0_; clear n0_; (try clear hb); (try clear hb2); (try clear hk); (try clear hi)) | (go_at_call 21; (with_reducible refine (wide_Of.calls a0 t165 t166 _ A11.out).mono ?_); rintro e w22 ⟨rfl, hb⟩; have n0_ := Aside0.mk (below_step (by repeat (first | (with_reducible first | exact HB.out | apply below_alloc | apply pw_below_drewN | apply below_drew1) | exact HB.out)) hb); clear HB; have HB := n0_; clear n0_; (try clear hb); (try clear hb2); (try clear hk); (try clear hi)) | (go_at_call 23; (with_reducible refine (wide_Num_Cmp.calls k t163 t164 t165 t166 t167 _ A12.out).mono ?_); rintro e w23 ⟨rfl, hb⟩; have n0_ := Aside0.mk (below_step (by repeat (first | (with_reducible first | exact HB.out | apply below_alloc | apply pw_below_drewN | apply below_drew1) | exact HB.out)) hb); clear HB; have HB := n0_; clear n0_; (try clear hb); (try clear hb2); (try clear hk); (try clear hi)) | (go_at_call 18; (with_reducible refine (wide_Mul.calls (wrap64 (t161 + 1)) (wrap64 (t161 + 1)) t168 t169 _ A14.out).mono ?_); rintro e w24 ⟨rfl, hb⟩; have n0_ := Aside0.mk (below_step (by repeat (first | (with_reducible first | exact HB.out | apply below_alloc | apply pw_below_drewN | apply below_drew1) | exact HB.out)) hb); clear HB; have HB := n0_; clear n0_; (try clear hb); (try clear hb2); (try clear hk); (try clear hi)) | (go_at_call 21; (with_reducible refine (wide_Of.calls a0 t165 t166 _ A15.out).mono ?_); rintro e w25 ⟨rfl, hb⟩; have n0_ := Aside0.mk (below_step (by repeat (first | (with_reducible first | exact HB.out | apply below_alloc | apply pw_below_drewN | apply below_drew1) | exact HB.out)) hb); clear HB; have HB := n0_; clear n0_; (try clear hb); (try clear hb2); (try clear hk); (try clear hi)) | (go_at_call 23; (with_reducible refine (wide_Num_Cmp.calls k t168 t169 t165 t166 t172 _ A17.out).mono ?_); rintro e w26 ⟨rfl, hb⟩; have n0_ := Aside0.mk (below_step (by repeat (first | (with_reducible first | exact HB.out | apply below_alloc | apply pw_below_drewN | apply below_drew1) | exact HB.out)) hb); clear HB; have HB := n0_; clear n0_; (try clear hb); (try clear hb2); (try clear hk); (try clear hi)) | (go_at_call 17; (with_reducible refine (limnerlaw02_awake.calls k  t173 _ A19.out).mono ?_); rintro e w27 ⟨rfl, hb⟩; have n0_ := Aside0.mk (below_step (by repeat (first | (with_reducible first | exact HB.out | apply below_alloc | apply pw_below_drewN | apply below_drew1) | exact HB.out)) hb); clear HB; have HB := n0_; clear n0_; (try clear hb); (try clear hb2); (try clear hk); (try clear hi)))
            go_ret
            exact ⟨by first | rfl | (simp [errW_none, errW_some] <;> rfl) | (simp [*, errW_none, errW_some] <;> rfl), by repeat (first | (with_reducible first | exact HB.out | apply below_alloc | apply pw_below_drewN | apply below_drew1) | exact HB.out)⟩
          · rw [if_neg c18] at H
            exact absurd H (by simp)
        · rw [if_neg c13] at H
          exact absurd H (by simp)
      · rw [if_neg c9] at H
        exact absurd H (by simp)
    · rw [if_neg c8] at H
      exact absurd H (by simp)

/-- THE ONE PURE STATEMENT of limnerlaw02_WideRoots: yours. -/
def limnerlaw02_WideRoots.Pure : Prop := ∀ (a0 : Int), (Lit.int .i64 a0).wf = true → ∃ k, limnerlaw02_WideRoots.f k a0 = some true
theorem limnerlaw02_WideRoots.walk (P : limnerlaw02_WideRoots.Pure) (a0 : Int) (w : World) (w0 : (Lit.int .i64 a0).wf = true) :
    Calls Try.prog 5 #[.int .i64 a0] w fun e w' => e = .returned (.bool true) ∧ Below w.heap.size w w' := by
  obtain ⟨k, h⟩ := P a0 w0
  refine (limnerlaw02_WideRoots.calls k a0 true w h).mono ?_
  rintro e w' ⟨rfl, hd⟩
  exact ⟨rfl, hd⟩

end Go.Proofs.Ytjgkommhdodghaa.X
