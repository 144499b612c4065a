-- Made by xprint.py (this session's own driver of the kit's print) out of the translation; Lean checks it.
import Derived.Test.YtfhjndnempmcaaaXx0
import Derived.Test.YtfhjndnempmcaaaXx1
import Derived.Test.YtfhjndnempmcaaaXx5
import Derived.Test.YtfhjndnempmcaaaXx6
import Derived.Test.YtfhjndnempmcaaaXx7
namespace Go.Proofs.Ytfhjndnempmcaaa.X
open Go.Proofs.Ytfhjndnempmcaaa
open Go.RowKit Go.Proofs.YtfhjndnempmcaaaW.PrintWords Go.Proofs.YtfhjndnempmcaaaW.PrintLast Go.Proofs.YtfhjndnempmcaaaW.PrintMore
attribute [local go_sem] max2_int min2_int max_two min_two max_three min_three max_four min_four   -- for this text's walks alone
set_option linter.unusedVariables false
set_option linter.unusedSimpArgs false

attribute [local go_sem high] eqA35
/-! ### limnerlaw03_awake: function 10 -/
def limnerlaw03_awake.f (k : Nat)  : Option (Bool) := (limnerlaw03_at.f 0 0).bind fun bt153 => ((limnerlaw03_at.f 2 0).bind fun bt155 => ((limnerlaw03_at.f 1 1).bind fun bt157 => ((geom_Side.f k bt153.1 bt153.2 bt155.1 bt155.2 bt157.1 bt157.2).bind fun t159 => (if t159 = 1 then ((limnerlaw03_at.f 0 0).bind fun bt160 => ((limnerlaw03_at.f 2 0).bind fun bt162 => ((limnerlaw03_at.f 2 2).bind fun bt164 => ((limnerlaw03_at.f 0 2).bind fun bt166 => ((limnerlaw03_at.f 1 1).bind fun bt171 => ((geom_Winds.f k (([(⟨bt160.1, bt160.2⟩ : S24), (⟨bt162.1, bt162.2⟩ : S24), (⟨bt164.1, bt164.2⟩ : S24), (⟨bt166.1, bt166.2⟩ : S24)] : List (S24))) bt171.1 bt171.2).bind fun t173 => (if t173 = 1 then ((limnerlaw03_at.f 1 1).bind fun bt174 => ((geom_Bound.f k (([(⟨bt174.1, bt174.2⟩ : S24)] : List (S24)))).bind fun bt179 => (some (bt179.1 == 1 && (bt179.2.1 == 1 && (bt179.2.2.1 == 2 && (bt179.2.2.2 == 2))))))) else (none)))))))) else (none)))))
theorem limnerlaw03_awake.mono : ∀ k, LeO (limnerlaw03_awake.f k ) (limnerlaw03_awake.f (k + 1) ) := by
  intro  k
  unfold limnerlaw03_awake.f
  repeat' first
      | (with_reducible exact geom_Bound.mono _ _)
      | (with_reducible exact geom_Side.mono _ _ _ _ _ _ _)
      | (with_reducible exact geom_Winds.mono _ _ _ _)
      | (with_reducible exact LeO.refl _)
      | (with_reducible exact LeO.none _)
      | (with_reducible refine LeO.ite ?_ ?_)
      | (with_reducible refine LeO.bind ?_ (fun _ => ?_))
      | exact geom_Bound.mono _ _
      | exact geom_Side.mono _ _ _ _ _ _ _
      | exact geom_Winds.mono _ _ _ _
      | exact LeO.none _
      | refine LeO.ite ?_ ?_
      | refine LeO.bind ?_ (fun _ => ?_)
set_option maxHeartbeats 8000000 in
set_option maxRecDepth 100000 in
theorem limnerlaw03_awake.calls (k : Nat)  (r : Bool) (w : World) (h : limnerlaw03_awake.f k  = some r) :
    Calls Try.prog 10 #[] w fun e w' => e = .returned (.bool r) ∧ Below w.heap.size w w' := by
  have hu35 := Try.underlying35
  have HB := Aside0.mk (Below.refl w.heap.size w)
  have H : ((limnerlaw03_at.f 0 0).bind fun bt153 => ((limnerlaw03_at.f 2 0).bind fun bt155 => ((limnerlaw03_at.f 1 1).bind fun bt157 => ((geom_Side.f k bt153.1 bt153.2 bt155.1 bt155.2 bt157.1 bt157.2).bind fun t159 => (if t159 = 1 then ((limnerlaw03_at.f 0 0).bind fun bt160 => ((limnerlaw03_at.f 2 0).bind fun bt162 => ((limnerlaw03_at.f 2 2).bind fun bt164 => ((limnerlaw03_at.f 0 2).bind fun bt166 => ((limnerlaw03_at.f 1 1).bind fun bt171 => ((geom_Winds.f k (([(⟨bt160.1, bt160.2⟩ : S24), (⟨bt162.1, bt162.2⟩ : S24), (⟨bt164.1, bt164.2⟩ : S24), (⟨bt166.1, bt166.2⟩ : S24)] : List (S24))) bt171.1 bt171.2).bind fun t173 => (if t173 = 1 then ((limnerlaw03_at.f 1 1).bind fun bt174 => ((geom_Bound.f k (([(⟨bt174.1, bt174.2⟩ : S24)] : List (S24)))).bind fun bt179 => (some (bt179.1 == 1 && (bt179.2.1 == 1 && (bt179.2.2.1 == 2 && (bt179.2.2.2 == 2))))))) else (none)))))))) else (none)))))) = some r := h
  clear h
  replace H := Option.bind_eq_some_iff.mp H
  obtain ⟨⟨t153, t154⟩, A10, H⟩ := H
  replace H : ((limnerlaw03_at.f 2 0).bind fun bt155 => ((limnerlaw03_at.f 1 1).bind fun bt157 => ((geom_Side.f k t153 t154 bt155.1 bt155.2 bt157.1 bt157.2).bind fun t159 => (if t159 = 1 then ((limnerlaw03_at.f 0 0).bind fun bt160 => ((limnerlaw03_at.f 2 0).bind fun bt162 => ((limnerlaw03_at.f 2 2).bind fun bt164 => ((limnerlaw03_at.f 0 2).bind fun bt166 => ((limnerlaw03_at.f 1 1).bind fun bt171 => ((geom_Winds.f k (([(⟨bt160.1, bt160.2⟩ : S24), (⟨bt162.1, bt162.2⟩ : S24), (⟨bt164.1, bt164.2⟩ : S24), (⟨bt166.1, bt166.2⟩ : S24)] : List (S24))) bt171.1 bt171.2).bind fun t173 => (if t173 = 1 then ((limnerlaw03_at.f 1 1).bind fun bt174 => ((geom_Bound.f k (([(⟨bt174.1, bt174.2⟩ : S24)] : List (S24)))).bind fun bt179 => (some (bt179.1 == 1 && (bt179.2.1 == 1 && (bt179.2.2.1 == 2 && (bt179.2.2.2 == 2))))))) else (none)))))))) else (none))))) = some r := H
  have A1 := Aside0.mk A10
  clear A10
  replace H := Option.bind_eq_some_iff.mp H
  obtain ⟨⟨t155, t156⟩, A20, H⟩ := H
  replace H : ((limnerlaw03_at.f 1 1).bind fun bt157 => ((geom_Side.f k t153 t154 t155 t156 bt157.1 bt157.2).bind fun t159 => (if t159 = 1 then ((limnerlaw03_at.f 0 0).bind fun bt160 => ((limnerlaw03_at.f 2 0).bind fun bt162 => ((limnerlaw03_at.f 2 2).bind fun bt164 => ((limnerlaw03_at.f 0 2).bind fun bt166 => ((limnerlaw03_at.f 1 1).bind fun bt171 => ((geom_Winds.f k (([(⟨bt160.1, bt160.2⟩ : S24), (⟨bt162.1, bt162.2⟩ : S24), (⟨bt164.1, bt164.2⟩ : S24), (⟨bt166.1, bt166.2⟩ : S24)] : List (S24))) bt171.1 bt171.2).bind fun t173 => (if t173 = 1 then ((limnerlaw03_at.f 1 1).bind fun bt174 => ((geom_Bound.f k (([(⟨bt174.1, bt174.2⟩ : S24)] : List (S24)))).bind fun bt179 => (some (bt179.1 == 1 && (bt179.2.1 == 1 && (bt179.2.2.1 == 2 && (bt179.2.2.2 == 2))))))) else (none)))))))) else (none)))) = some r := H
  have A2 := Aside0.mk A20
  clear A20
  replace H := Option.bind_eq_some_iff.mp H
  obtain ⟨⟨t157, t158⟩, A30, H⟩ := H
  replace H : ((geom_Side.f k t153 t154 t155 t156 t157 t158).bind fun t159 => (if t159 = 1 then ((limnerlaw03_at.f 0 0).bind fun bt160 => ((limnerlaw03_at.f 2 0).bind fun bt162 => ((limnerlaw03_at.f 2 2).bind fun bt164 => ((limnerlaw03_at.f 0 2).bind fun bt166 => ((limnerlaw03_at.f 1 1).bind fun bt171 => ((geom_Winds.f k (([(⟨bt160.1, bt160.2⟩ : S24), (⟨bt162.1, bt162.2⟩ : S24), (⟨bt164.1, bt164.2⟩ : S24), (⟨bt166.1, bt166.2⟩ : S24)] : List (S24))) bt171.1 bt171.2).bind fun t173 => (if t173 = 1 then ((limnerlaw03_at.f 1 1).bind fun bt174 => ((geom_Bound.f k (([(⟨bt174.1, bt174.2⟩ : S24)] : List (S24)))).bind fun bt179 => (some (bt179.1 == 1 && (bt179.2.1 == 1 && (bt179.2.2.1 == 2 && (bt179.2.2.2 == 2))))))) else (none)))))))) else (none))) = some r := H
  have A3 := Aside0.mk A30
  clear A30
  replace H := Option.bind_eq_some_iff.mp H
  obtain ⟨t159, A40, H⟩ := H
  replace H : (if t159 = 1 then ((limnerlaw03_at.f 0 0).bind fun bt160 => ((limnerlaw03_at.f 2 0).bind fun bt162 => ((limnerlaw03_at.f 2 2).bind fun bt164 => ((limnerlaw03_at.f 0 2).bind fun bt166 => ((limnerlaw03_at.f 1 1).bind fun bt171 => ((geom_Winds.f k (([(⟨bt160.1, bt160.2⟩ : S24), (⟨bt162.1, bt162.2⟩ : S24), (⟨bt164.1, bt164.2⟩ : S24), (⟨bt166.1, bt166.2⟩ : S24)] : List (S24))) bt171.1 bt171.2).bind fun t173 => (if t173 = 1 then ((limnerlaw03_at.f 1 1).bind fun bt174 => ((geom_Bound.f k (([(⟨bt174.1, bt174.2⟩ : S24)] : List (S24)))).bind fun bt179 => (some (bt179.1 == 1 && (bt179.2.1 == 1 && (bt179.2.2.1 == 2 && (bt179.2.2.2 == 2))))))) else (none)))))))) else (none)) = some r := H
  have A4 := Aside0.mk A40
  clear A40
  by_cases c5 : t159 = 1
  · rw [if_pos c5] at H
    have c5b0 : (t159 == 1) = true := beq_iff_eq.mpr c5
    have c5b1 : (t159 != 1) = false := bne_eq_false_iff_eq.mpr c5
    clear c5
    replace H := Option.bind_eq_some_iff.mp H
    obtain ⟨⟨t160, t161⟩, A60, H⟩ := H
    replace H : ((limnerlaw03_at.f 2 0).bind fun bt162 => ((limnerlaw03_at.f 2 2).bind fun bt164 => ((limnerlaw03_at.f 0 2).bind fun bt166 => ((limnerlaw03_at.f 1 1).bind fun bt171 => ((geom_Winds.f k (([(⟨t160, t161⟩ : S24), (⟨bt162.1, bt162.2⟩ : S24), (⟨bt164.1, bt164.2⟩ : S24), (⟨bt166.1, bt166.2⟩ : S24)] : List (S24))) bt171.1 bt171.2).bind fun t173 => (if t173 = 1 then ((limnerlaw03_at.f 1 1).bind fun bt174 => ((geom_Bound.f k (([(⟨bt174.1, bt174.2⟩ : S24)] : List (S24)))).bind fun bt179 => (some (bt179.1 == 1 && (bt179.2.1 == 1 && (bt179.2.2.1 == 2 && (bt179.2.2.2 == 2))))))) else (none))))))) = some r := H
    have A6 := Aside0.mk A60
    clear A60
    replace H := Option.bind_eq_some_iff.mp H
    obtain ⟨⟨t162, t163⟩, A70, H⟩ := H
    replace H : ((limnerlaw03_at.f 2 2).bind fun bt164 => ((limnerlaw03_at.f 0 2).bind fun bt166 => ((limnerlaw03_at.f 1 1).bind fun bt171 => ((geom_Winds.f k (([(⟨t160, t161⟩ : S24), (⟨t162, t163⟩ : S24), (⟨bt164.1, bt164.2⟩ : S24), (⟨bt166.1, bt166.2⟩ : S24)] : List (S24))) bt171.1 bt171.2).bind fun t173 => (if t173 = 1 then ((limnerlaw03_at.f 1 1).bind fun bt174 => ((geom_Bound.f k (([(⟨bt174.1, bt174.2⟩ : S24)] : List (S24)))).bind fun bt179 => (some (bt179.1 == 1 && (bt179.2.1 == 1 && (bt179.2.2.1 == 2 && (bt179.2.2.2 == 2))))))) else (none)))))) = some r := H
    have A7 := Aside0.mk A70
    clear A70
    replace H := Option.bind_eq_some_iff.mp H
    obtain ⟨⟨t164, t165⟩, A80, H⟩ := H
    replace H : ((limnerlaw03_at.f 0 2).bind fun bt166 => ((limnerlaw03_at.f 1 1).bind fun bt171 => ((geom_Winds.f k (([(⟨t160, t161⟩ : S24), (⟨t162, t163⟩ : S24), (⟨t164, t165⟩ : S24), (⟨bt166.1, bt166.2⟩ : S24)] : List (S24))) bt171.1 bt171.2).bind fun t173 => (if t173 = 1 then ((limnerlaw03_at.f 1 1).bind fun bt174 => ((geom_Bound.f k (([(⟨bt174.1, bt174.2⟩ : S24)] : List (S24)))).bind fun bt179 => (some (bt179.1 == 1 && (bt179.2.1 == 1 && (bt179.2.2.1 == 2 && (bt179.2.2.2 == 2))))))) else (none))))) = some r := H
    have A8 := Aside0.mk A80
    clear A80
    replace H := Option.bind_eq_some_iff.mp H
    obtain ⟨⟨t166, t167⟩, A90, H⟩ := H
    replace H : ((limnerlaw03_at.f 1 1).bind fun bt171 => ((geom_Winds.f k (([(⟨t160, t161⟩ : S24), (⟨t162, t163⟩ : S24), (⟨t164, t165⟩ : S24), (⟨t166, t167⟩ : S24)] : List (S24))) bt171.1 bt171.2).bind fun t173 => (if t173 = 1 then ((limnerlaw03_at.f 1 1).bind fun bt174 => ((geom_Bound.f k (([(⟨bt174.1, bt174.2⟩ : S24)] : List (S24)))).bind fun bt179 => (some (bt179.1 == 1 && (bt179.2.1 == 1 && (bt179.2.2.1 == 2 && (bt179.2.2.2 == 2))))))) else (none)))) = some r := H
    have A9 := Aside0.mk A90
    clear A90
    obtain ⟨y168, hy168⟩ : ∃ y_ : List (S24), y_ = (([(⟨t160, t161⟩ : S24), (⟨t162, t163⟩ : S24), (⟨t164, t165⟩ : S24), (⟨t166, t167⟩ : S24)] : List (S24))) := ⟨_, rfl⟩
    replace H : ((limnerlaw03_at.f 1 1).bind fun bt171 => ((geom_Winds.f k y168 bt171.1 bt171.2).bind fun t173 => (if t173 = 1 then ((limnerlaw03_at.f 1 1).bind fun bt174 => ((geom_Bound.f k (([(⟨bt174.1, bt174.2⟩ : S24)] : List (S24)))).bind fun bt179 => (some (bt179.1 == 1 && (bt179.2.1 == 1 && (bt179.2.2.1 == 2 && (bt179.2.2.2 == 2))))))) else (none)))) = some r := by first | (rw [hy168]; with_reducible exact H) | (have H2_ := (Option.bind_some _ _).symm.trans H; rw [hy168]; with_reducible exact H2_) | (have H2_ := (Option.bind_some _ _).symm.trans H; with_reducible exact H2_) | with_reducible exact H | (rw [hy168]; exact H) | exact H
    have Ny168 := Aside0.mk hy168
    clear hy168
    replace H := Option.bind_eq_some_iff.mp H
    obtain ⟨⟨t171, t172⟩, A100, H⟩ := H
    replace H : ((geom_Winds.f k y168 t171 t172).bind fun t173 => (if t173 = 1 then ((limnerlaw03_at.f 1 1).bind fun bt174 => ((geom_Bound.f k (([(⟨bt174.1, bt174.2⟩ : S24)] : List (S24)))).bind fun bt179 => (some (bt179.1 == 1 && (bt179.2.1 == 1 && (bt179.2.2.1 == 2 && (bt179.2.2.2 == 2))))))) else (none))) = some r := H
    have A10 := Aside0.mk A100
    clear A100
    replace H := Option.bind_eq_some_iff.mp H
    obtain ⟨t173, A110, H⟩ := H
    replace H : (if t173 = 1 then ((limnerlaw03_at.f 1 1).bind fun bt174 => ((geom_Bound.f k (([(⟨bt174.1, bt174.2⟩ : S24)] : List (S24)))).bind fun bt179 => (some (bt179.1 == 1 && (bt179.2.1 == 1 && (bt179.2.2.1 == 2 && (bt179.2.2.2 == 2))))))) else (none)) = some r := H
    have A11 := Aside0.mk A110
    clear A110
    by_cases c12 : t173 = 1
    · rw [if_pos c12] at H
      have c12b0 : (t173 == 1) = true := beq_iff_eq.mpr c12
      have c12b1 : (t173 != 1) = false := bne_eq_false_iff_eq.mpr c12
      clear c12
      replace H := Option.bind_eq_some_iff.mp H
      obtain ⟨⟨t174, t175⟩, A130, H⟩ := H
      replace H : ((geom_Bound.f k (([(⟨t174, t175⟩ : S24)] : List (S24)))).bind fun bt179 => (some (bt179.1 == 1 && (bt179.2.1 == 1 && (bt179.2.2.1 == 2 && (bt179.2.2.2 == 2)))))) = some r := H
      have A13 := Aside0.mk A130
      clear A130
      obtain ⟨y176, hy176⟩ : ∃ y_ : List (S24), y_ = (([(⟨t174, t175⟩ : S24)] : List (S24))) := ⟨_, rfl⟩
      replace H : ((geom_Bound.f k y176).bind fun bt179 => (some (bt179.1 == 1 && (bt179.2.1 == 1 && (bt179.2.2.1 == 2 && (bt179.2.2.2 == 2)))))) = some r := by first | (rw [hy176]; with_reducible exact H) | (have H2_ := (Option.bind_some _ _).symm.trans H; rw [hy176]; with_reducible exact H2_) | (have H2_ := (Option.bind_some _ _).symm.trans H; with_reducible exact H2_) | with_reducible exact H | (rw [hy176]; exact H) | exact H
      have Ny176 := Aside0.mk hy176
      clear hy176
      replace H := Option.bind_eq_some_iff.mp H
      obtain ⟨⟨t179, t180, t181, t182⟩, A140, H⟩ := H
      replace H : (some (t179 == 1 && (t180 == 1 && (t181 == 2 && (t182 == 2))))) = some r := H
      have A14 := Aside0.mk A140
      clear A140
      obtain rfl := Option.some.inj H
      go_enter Try.func10, Try.ntmps10
      go_wp2_with (first | ((with_reducible refine gate_callee (f := 27) rfl ?_); refine goesL_ (some 1) rfl rfl Try.func27 (by kernel_rfl) rfl #[.int .i64 0, .int .i64 0] rfl (by (try simp only [List.map_toArray, List.map_cons, List.map_nil]); first | done | rfl | (simp only [List.length_drop, List.length_take]; rfl)) ?_; (with_reducible refine (limnerlaw03_at.calls 0 0 t153 t154 _ A1.out).mono ?_); rintro e w15 ⟨rfl, hb⟩; refine ⟨_, rfl, ?_⟩; have n0_ := Aside0.mk (below_step (by repeat (first | (with_reducible first | exact HB.out | apply below_alloc | apply pw_below_drewN | apply below_drew1) | exact HB.out)) hb); clear HB; have HB := n0_; clear n0_; (try clear hb); (try clear hb2); (try clear hk); (try clear hi)) | ((with_reducible refine gate_callee (f := 27) rfl ?_); refine goesL_ (some 2) rfl rfl Try.func27 (by kernel_rfl) rfl #[.int .i64 2, .int .i64 0] rfl (by (try simp only [List.map_toArray, List.map_cons, List.map_nil]); first | done | rfl | (simp only [List.length_drop, List.length_take]; rfl)) ?_; (with_reducible refine (limnerlaw03_at.calls 2 0 t155 t156 _ A2.out).mono ?_); rintro e w16 ⟨rfl, hb⟩; refine ⟨_, rfl, ?_⟩; have n0_ := Aside0.mk (below_step (by repeat (first | (with_reducible first | exact HB.out | apply below_alloc | apply pw_below_drewN | apply below_drew1) | exact HB.out)) hb); clear HB; have HB := n0_; clear n0_; (try clear hb); (try clear hb2); (try clear hk); (try clear hi)) | ((with_reducible refine gate_callee (f := 27) rfl ?_); refine goesL_ (some 3) rfl rfl Try.func27 (by kernel_rfl) rfl #[.int .i64 1, .int .i64 1] rfl (by (try simp only [List.map_toArray, List.map_cons, List.map_nil]); first | done | rfl | (simp only [List.length_drop, List.length_take]; rfl)) ?_; (with_reducible refine (limnerlaw03_at.calls 1 1 t157 t158 _ A3.out).mono ?_); rintro e w17 ⟨rfl, hb⟩; refine ⟨_, rfl, ?_⟩; have n0_ := Aside0.mk (below_step (by repeat (first | (with_reducible first | exact HB.out | apply below_alloc | apply pw_below_drewN | apply below_drew1) | exact HB.out)) hb); clear HB; have HB := n0_; clear n0_; (try clear hb); (try clear hb2); (try clear hk); (try clear hi)) | ((with_reducible refine gate_callee (f := 17) rfl ?_); refine goesL_ (some 4) rfl rfl Try.func17 (by kernel_rfl) rfl #[.agg #[.int .i64 t153, .int .i64 t154], .agg #[.int .i64 t155, .int .i64 t156], .agg #[.int .i64 t157, .int .i64 t158]] rfl (by (try simp only [List.map_toArray, List.map_cons, List.map_nil]); first | done | rfl | (simp only [List.length_drop, List.length_take]; rfl)) ?_; (with_reducible refine (geom_Side.calls k t153 t154 t155 t156 t157 t158 t159 _ A4.out).mono ?_); rintro e w18 ⟨rfl, hb⟩; refine ⟨_, rfl, ?_⟩; have n0_ := Aside0.mk (below_step (by repeat (first | (with_reducible first | exact HB.out | apply below_alloc | apply pw_below_drewN | apply below_drew1) | exact HB.out)) hb); clear HB; have HB := n0_; clear n0_; (try clear hb); (try clear hb2); (try clear hk); (try clear hi)) | (go_at_call 27; (with_reducible refine (limnerlaw03_at.calls 0 0 t160 t161 _ A6.out).mono ?_); rintro e w19 ⟨rfl, hb⟩; have n0_ := Aside0.mk (below_step (by repeat (first | (with_reducible first | exact HB.out | apply below_alloc | apply pw_below_drewN | apply below_drew1) | exact HB.out)) hb); clear HB; have HB := n0_; clear n0_; (try clear hb); (try clear hb2); (try clear hk); (try clear hi)) | (go_at_call 27; (with_reducible refine (limnerlaw03_at.calls 2 0 t162 t163 _ A7.out).mono ?_); rintro e w20 ⟨rfl, hb⟩; have n0_ := Aside0.mk (below_step (by repeat (first | (with_reducible first | exact HB.out | apply below_alloc | apply pw_below_drewN | apply below_drew1) | exact HB.out)) hb); clear HB; have HB := n0_; clear n0_; (try clear hb); (try clear hb2); (try clear hk); (try clear hi)) | (go_at_call 27; (with_reducible refine (limnerlaw03_at.calls 2 2 t164 t165 _ A8.out).mono ?_); rintro e w21 ⟨rfl, hb⟩; have n0_ := Aside0.mk (below_step (by repeat (first | (with_reducible first | exact HB.out | apply below_alloc | apply pw_below_drewN | apply below_drew1) | exact HB.out)) hb); clear HB; have HB := n0_; clear n0_; (try clear hb); (try clear hb2); (try clear hk); (try clear hi)) | (go_at_call 27; (with_reducible refine (limnerlaw03_at.calls 0 2 t166 t167 _ A9.out).mono ?_); rintro e w22 ⟨rfl, hb⟩; have n0_ := Aside0.mk (below_step (by repeat (first | (with_reducible first | exact HB.out | apply below_alloc | apply pw_below_drewN | apply below_drew1) | exact HB.out)) hb); clear HB; have HB := n0_; clear n0_; (try clear hb); (try clear hb2); (try clear hk); (try clear hi)) | ((with_reducible refine gate_dst (N := 11) rfl ?_); (try (refine gate_guard (by rfl) ?_; dsimp only)); refine Kd.R_lit k24 _ 24 ?hg (N := 11) ?hd (xs := ([(⟨t160, t161⟩ : S24), (⟨t162, t163⟩ : S24), (⟨t164, t165⟩ : S24), (⟨t166, t167⟩ : S24)] : List (S24))) (inner := [.int .i64 t160, .int .i64 t161, .int .i64 t162, .int .i64 t163, .int .i64 t164, .int .i64 t165, .int .i64 t166, .int .i64 t167]) (ok := fun _ => True) (okp := fun _ => True) ?hr ?hp (fun _ hk => hk) trivial (Below.refl _ _) (Nat.le_refl _) (by simp) ?_; (case hd => rfl); (case hg => rfl); (case hr => first | (go_simp; done) | (go_simp; rfl)); (case hp => exact (Reps.c2 (show Kd.M k24 _ _ _ (⟨t160, t161⟩ : S24) [.int .i64 t160, .int .i64 t161] from (k24_mkM _ _ _ (⟨t160, t161⟩ : S24) )) (Reps.c2 (show Kd.M k24 _ _ _ (⟨t162, t163⟩ : S24) [.int .i64 t162, .int .i64 t163] from (k24_mkM _ _ _ (⟨t162, t163⟩ : S24) )) (Reps.c2 (show Kd.M k24 _ _ _ (⟨t164, t165⟩ : S24) [.int .i64 t164, .int .i64 t165] from (k24_mkM _ _ _ (⟨t164, t165⟩ : S24) )) (Reps.c2 (show Kd.M k24 _ _ _ (⟨t166, t167⟩ : S24) [.int .i64 t166, .int .i64 t167] from (k24_mkM _ _ _ (⟨t166, t167⟩ : S24) )) (Reps.none _ _)))))); intro v169 w23 ho24 hb hg_ hnew_; clear hg_ hnew_; (first | rw [← Ny168.out] at ho24 | (simp only [Int.reduceToNat] at ho24; rw [← Ny168.out] at ho24)); have n0_ := Aside0.mk (Kd.R_lower ho24 (below_size (by repeat (first | (with_reducible first | exact HB.out | apply below_alloc | apply pw_below_drewN | apply below_drew1) | exact HB.out)))); have n1_ := Aside0.mk (below_step (by repeat (first | (with_reducible first | exact HB.out | apply below_alloc | apply pw_below_drewN | apply below_drew1) | exact HB.out)) hb); clear HB; have HO170 := n0_; have HB := n1_; clear n0_ n1_; clear hb ho24) | (go_at_call 27; (with_reducible refine (limnerlaw03_at.calls 1 1 t171 t172 _ A10.out).mono ?_); rintro e w25 ⟨rfl, hb⟩; have n0_ := Aside0.mk (Kd.R_below (by (with_reducible repeat (first | apply Kd.R_alloc | apply Kd.R_drewN | apply Kd.R_drew)); exact HO170.out) hb); have n1_ := Aside0.mk (below_step (by repeat (first | (with_reducible first | exact HB.out | apply below_alloc | apply pw_below_drewN | apply below_drew1) | exact HB.out)) hb); clear HO170; clear HB; have HO170 := n0_; have HB := n1_; clear n0_ n1_; (try clear hb); (try clear hb2); (try clear hk); (try clear hi); obtain ⟨Ao26, co26, eo26⟩ := Kd.R_slice HO170.out; subst eo26) | (go_at_call 12; (with_reducible refine (geom_Winds.calls k _ _ y168 t171 t172 t173 _ ?side1 ?side2 A11.out).mono ?_); (case side1 => repeat (first | exact (Kd.R_reads' HO170.out).2.2 | (with_reducible refine Kd.C_alloc ?_ _) | (with_reducible refine Kd.C_drewN ?_ _) | (with_reducible refine Kd.C_drew ?_))); (case side2 => exact (Kd.R_reads' HO170.out).2.1); rintro e w27 ⟨rfl, hb⟩; have n0_ := Aside0.mk (Kd.R_below (by (with_reducible repeat (first | apply Kd.R_alloc | apply Kd.R_drewN | apply Kd.R_drew)); exact HO170.out) hb); have n1_ := Aside0.mk (below_step (by repeat (first | (with_reducible first | exact HB.out | apply below_alloc | apply pw_below_drewN | apply below_drew1) | exact HB.out)) hb); clear HO170; clear HB; have HO170 := n0_; have HB := n1_; clear n0_ n1_; (try clear hb); (try clear hb2); (try clear hk); (try clear hi)) | (go_at_call 27; (with_reducible refine (limnerlaw03_at.calls 1 1 t174 t175 _ A13.out).mono ?_); rintro e w28 ⟨rfl, hb⟩; have n0_ := Aside0.mk (Kd.R_below (by (with_reducible repeat (first | apply Kd.R_alloc | apply Kd.R_drewN | apply Kd.R_drew)); exact HO170.out) hb); have n1_ := Aside0.mk (below_step (by repeat (first | (with_reducible first | exact HB.out | apply below_alloc | apply pw_below_drewN | apply below_drew1) | exact HB.out)) hb); clear HO170; clear HB; have HO170 := n0_; have HB := n1_; clear n0_ n1_; (try clear hb); (try clear hb2); (try clear hk); (try clear hi)) | ((with_reducible refine gate_dst (N := 18) rfl ?_); (try (refine gate_guard (by rfl) ?_; dsimp only)); refine Kd.R_lit k24 _ 24 ?hg (N := 18) ?hd (xs := ([(⟨t174, t175⟩ : S24)] : List (S24))) (inner := [.int .i64 t174, .int .i64 t175]) (ok := fun _ => True) (okp := fun _ => True) ?hr ?hp (fun _ hk => hk) trivial (Below.refl _ _) (Nat.le_refl _) (by simp) ?_; (case hd => rfl); (case hg => rfl); (case hr => first | (go_simp; done) | (go_simp; rfl)); (case hp => exact (Reps.c2 (show Kd.M k24 _ _ _ (⟨t174, t175⟩ : S24) [.int .i64 t174, .int .i64 t175] from (k24_mkM _ _ _ (⟨t174, t175⟩ : S24) )) (Reps.none _ _))); intro v177 w29 ho30 hb hg_ hnew_; clear hg_ hnew_; (first | rw [← Ny176.out] at ho30 | (simp only [Int.reduceToNat] at ho30; rw [← Ny176.out] at ho30)); have n0_ := Aside0.mk (Kd.R_elder' (by (with_reducible repeat (first | apply Kd.R_alloc | apply Kd.R_drewN | apply Kd.R_drew)); exact HO170.out) (Kd.R_base ho30) hb); have n1_ := Aside0.mk (Kd.R_lower (Kd.R_new' ho30 (Kd.R_lt (by (with_reducible repeat (first | apply Kd.R_alloc | apply Kd.R_drewN | apply Kd.R_drew)); exact HO170.out))) (below_size (by repeat (first | (with_reducible first | exact HB.out | apply below_alloc | apply pw_below_drewN | apply below_drew1) | exact HB.out)))); have n2_ := Aside0.mk (below_step (by repeat (first | (with_reducible first | exact HB.out | apply below_alloc | apply pw_below_drewN | apply below_drew1) | exact HB.out)) hb); clear HO170; clear HB; have HO170 := n0_; have HO178 := n1_; have HB := n2_; clear n0_ n1_ n2_; clear hb ho30; obtain ⟨Ao31, co31, eo31⟩ := Kd.R_slice HO178.out; subst eo31) | (go_at_call 14; (with_reducible refine (geom_Bound.calls k _ _ y176 t179 t180 t181 t182 _ ?side1 ?side2 A14.out).mono ?_); (case side1 => repeat (first | exact (Kd.R_reads' HO178.out).2.2 | (with_reducible refine Kd.C_alloc ?_ _) | (with_reducible refine Kd.C_drewN ?_ _) | (with_reducible refine Kd.C_drew ?_))); (case side2 => exact (Kd.R_reads' HO178.out).2.1); rintro e w32 ⟨rfl, hb⟩; have n0_ := Aside0.mk (Kd.R_below (by (with_reducible repeat (first | apply Kd.R_alloc | apply Kd.R_drewN | apply Kd.R_drew)); exact HO170.out) hb); have n1_ := Aside0.mk (Kd.R_below (by (with_reducible repeat (first | apply Kd.R_alloc | apply Kd.R_drewN | apply Kd.R_drew)); exact HO178.out) hb); have n2_ := Aside0.mk (below_step (by repeat (first | (with_reducible first | exact HB.out | apply below_alloc | apply pw_below_drewN | apply below_drew1) | exact HB.out)) hb); clear HO170; clear HO178; clear HB; have HO170 := n0_; have HO178 := n1_; have HB := n2_; clear n0_ n1_ n2_; (try clear hb); (try clear hb2); (try clear hk); (try clear hi)))
      go_ret
      exact ⟨by first | rfl | (simp [errW_none, errW_some] <;> rfl) | (simp [*, errW_none, errW_some] <;> rfl), by repeat (first | (with_reducible first | exact HB.out | apply below_alloc | apply pw_below_drewN | apply below_drew1) | exact HB.out)⟩
    · rw [if_neg c12] at H
      exact absurd H (by simp)
  · rw [if_neg c5] at H
    exact absurd H (by simp)

/-! ### limnerlaw03_ref: function 11 -/
def limnerlaw03_ref.f (a0_0 : Int) (a0_1 : Int) : Option (Int × Int) := some (a0_0, a0_1)
set_option maxHeartbeats 8000000 in
set_option maxRecDepth 100000 in
theorem limnerlaw03_ref.calls (a0_0 : Int) (a0_1 : Int) (r1 : Int) (r2 : Int) (w : World) (h : limnerlaw03_ref.f a0_0 a0_1 = some (r1, r2)) :
    Calls Try.prog 11 #[.agg #[.int .i64 a0_0, .int .i64 a0_1]] w fun e w' => e = .returned (.agg #[.int .i64 r1, .int .i64 r2]) ∧ Below w.heap.size w w' := by
  have hu24 := Try.underlying24
  have hu28 := Try.underlying28
  have HB := Aside0.mk (Below.refl w.heap.size w)
  have H : (some (a0_0, a0_1)) = some (r1, r2) := h
  clear h
  simp only [Option.some.injEq, Prod.mk.injEq] at H
  obtain ⟨rfl, rfl⟩ := H
  go_enter Try.func11, Try.ntmps11
  go_wp2_with (first | ((with_reducible refine gate_dst (N := 1) rfl ?_); refine box_event ?hg (N := 1) ?hd (cs := #[.int .i64 a0_0, .int .i64 a0_1]) (t := 24) ?hr ?_; (case hd => rfl); (case hg => rfl); (case hr => first | (go_simp; done) | (go_simp; rfl)); intro gb183 hg w2 hbox hb; have n0_ := Aside0.mk (below_step (by repeat (first | (with_reducible first | exact HB.out | apply below_alloc | apply pw_below_drewN | apply below_drew1) | exact HB.out)) hb); have n1_ := Aside0.mk (hbox); have n2_ := Aside0.mk ((by rw [hg]; exact (below_size (by repeat (first | (with_reducible first | exact HB.out | apply below_alloc | apply pw_below_drewN | apply below_drew1) | exact HB.out))) : w.heap.size ≤ gb183)); have n3_ := Aside0.mk ((by rw [hg]; exact (below_size (by repeat (first | (with_reducible first | exact HB.out | apply below_alloc | apply pw_below_drewN | apply below_drew1) | exact HB.out))) : w.heap.size ≤ gb183)); clear HB; have HB := n0_; have BK183 := n1_; have GW183 := n2_; have GE183 := n3_; clear n0_ n1_ n2_ n3_; clear hb hbox hg) | ((with_reducible refine gate_dst (N := 2) rfl ?_); refine box_event ?hg (N := 2) ?hd (cs := #[.int .i64 0, .int .i64 0]) (t := 28) ?hr ?_; (case hd => rfl); (case hg => rfl); (case hr => first | (go_simp; done) | (go_simp; rfl)); intro gb184 hg w3 hbox hb; have n0_ := Aside0.mk (blk_below (g := gb183) (o := .cells #[.int .i64 a0_0, .int .i64 a0_1] 24 (0, 0)) (by (with_reducible repeat (first | refine blk_drewN ?_ _ | refine blk_drew ?_ | refine blk_alloc ?_ _)); exact BK183.out) hb); have n1_ := Aside0.mk (below_step (by repeat (first | (with_reducible first | exact HB.out | apply below_alloc | apply pw_below_drewN | apply below_drew1 | refine below_set ?_ GE183.out) | exact HB.out)) hb); have n2_ := Aside0.mk (hbox); have n3_ := Aside0.mk ((by rw [hg]; exact (below_size (by repeat (first | (with_reducible first | exact HB.out | apply below_alloc | apply pw_below_drewN | apply below_drew1 | refine below_set ?_ GE183.out) | exact HB.out))) : w.heap.size ≤ gb184)); have n4_ := Aside0.mk ((by rw [hg]; exact (below_size (by repeat (first | (with_reducible first | exact HB.out | apply below_alloc | apply pw_below_drewN | apply below_drew1 | refine below_set ?_ GE183.out) | exact HB.out))) : w.heap.size ≤ gb184)); have n5_ := Aside0.mk ((by rw [hg]; exact Nat.ne_of_lt (blk_lt (g := gb183) (o := .cells #[.int .i64 a0_0, .int .i64 a0_1] 24 (0, 0)) (by (with_reducible repeat (first | refine blk_drewN ?_ _ | refine blk_drew ?_ | refine blk_alloc ?_ _)); exact BK183.out)) : gb183 ≠ gb184)); have n6_ := Aside0.mk ((by rw [hg]; exact Nat.ne_of_gt (blk_lt (g := gb183) (o := .cells #[.int .i64 a0_0, .int .i64 a0_1] 24 (0, 0)) (by (with_reducible repeat (first | refine blk_drewN ?_ _ | refine blk_drew ?_ | refine blk_alloc ?_ _)); exact BK183.out)) : gb184 ≠ gb183)); clear BK183; clear HB; have BK183 := n0_; have HB := n1_; have BK184 := n2_; have GW184 := n3_; have GE184 := n4_; have NB183_184 := n5_; have NB184_183 := n6_; clear n0_ n1_ n2_ n3_ n4_ n5_ n6_; clear hb hbox hg; have hnb4 := NB183_184.out; have hnc4 := NB184_183.out; have hcz5_0 : w3.cell? ⟨gb183, 0, none⟩ = some (.int .i64 a0_0) := (blk_cell BK183.out 0).trans rfl; have hcz5_1 : w3.cell? ⟨gb183, 1, none⟩ = some (.int .i64 a0_1) := (blk_cell BK183.out 1).trans rfl; have hfz5_0 := blk_frozen BK183.out 0; have hfz5_1 := blk_frozen BK183.out 1; have hcz6_0 : w3.cell? ⟨gb184, 0, none⟩ = some (.int .i64 0) := (blk_cell BK184.out 0).trans rfl; have hcz6_1 : w3.cell? ⟨gb184, 1, none⟩ = some (.int .i64 0) := (blk_cell BK184.out 1).trans rfl; have hfz6_0 := blk_frozen BK184.out 0; have hfz6_1 := blk_frozen BK184.out 1))
  refine bodyPost_ret (results_cell_row rfl _ _ gb184 28 #[.int .i64 a0_0, .int .i64 a0_1] (0, 0) _ rfl (by (with_reducible repeat (first | refine blk_drewN ?_ _ | refine blk_drew ?_ | refine blk_alloc ?_ _)); refine blk_put (cs := #[.int .i64 a0_0, .int .i64 0]) ?_ 1 _ rfl; (with_reducible repeat (first | refine blk_drewN ?_ _ | refine blk_drew ?_ | refine blk_alloc ?_ _)); refine blk_put (cs := #[.int .i64 0, .int .i64 0]) ?_ 0 _ rfl; (with_reducible repeat (first | refine blk_drewN ?_ _ | refine blk_drew ?_ | refine blk_alloc ?_ _)); exact BK184.out) Try.underlying28 rfl (by kernel_rfl)) rfl ?_
  exact ⟨by first | rfl | (simp [errW_none, errW_some] <;> rfl) | (simp [*, errW_none, errW_some] <;> rfl), by repeat (first | (with_reducible first | exact HB.out | apply below_alloc | apply pw_below_drewN | apply below_drew1 | refine below_set ?_ GE183.out | refine below_set ?_ GE184.out) | exact HB.out)⟩

/-! ### limnerref03_product: function 31 -/
def limnerref03_product.j0 : Nat → Int → Int → Int → Option (Int × Int × Int)
  | 0, _, _, _ => none
  | k + 1, x0, x1, x7 => if x1 < 0 then (if x0 = 0 then (some (0, 0, 0)) else (if (wrap64 (-x1)) = 0 then (some (0, 0, 0)) else (some (wrap64 (-x7), wrap64 ((wrap64 ((wrap64 (Int.tdiv x0 65536)) * (wrap64 (-x1)))) + (wrap64 (Int.tdiv (wrap64 ((Int.tmod x0 65536) * (wrap64 (-x1)))) 65536))), Int.tmod (wrap64 ((Int.tmod x0 65536) * (wrap64 (-x1)))) 65536)))) else (if x0 = 0 then (some (0, 0, 0)) else (if x1 = 0 then (some (0, 0, 0)) else (some (x7, wrap64 ((wrap64 ((wrap64 (Int.tdiv x0 65536)) * x1)) + (wrap64 (Int.tdiv (wrap64 ((Int.tmod x0 65536) * x1)) 65536))), Int.tmod (wrap64 ((Int.tmod x0 65536) * x1)) 65536))))
def limnerref03_product.f (k : Nat) (a0 : Int) (a1 : Int) : Option (Int × Int × Int) := if a0 < 0 then (limnerref03_product.j0 k (wrap64 (-a0)) a1 (-1)) else (limnerref03_product.j0 k a0 a1 1)
theorem limnerref03_product.mono_l : ∀ k, (∀ y0 y1 y2, LeO (limnerref03_product.j0 k y0 y1 y2) (limnerref03_product.j0 (k + 1) y0 y1 y2))
  | 0 => fun _ _ _ r h => by simp [limnerref03_product.j0] at h
  | k + 1 => by
    have ih0 := limnerref03_product.mono_l k
    · intro y0 y1 y2
      unfold limnerref03_product.j0
      repeat' first
      | (with_reducible exact ih0 _ _ _)
      | (with_reducible exact LeO.refl _)
      | (with_reducible exact LeO.none _)
      | (with_reducible refine LeO.ite ?_ ?_)
      | (with_reducible refine LeO.bind ?_ (fun _ => ?_))
      | exact ih0 _ _ _
      | exact LeO.none _
      | refine LeO.ite ?_ ?_
      | refine LeO.bind ?_ (fun _ => ?_)
theorem limnerref03_product.mono : ∀ a0 a1 k, LeO (limnerref03_product.f k a0 a1) (limnerref03_product.f (k + 1) a0 a1) := by
  intro a0 a1 k
  have ih0 := limnerref03_product.mono_l k
  unfold limnerref03_product.f
  repeat' first
      | (with_reducible exact ih0 _ _ _)
      | (with_reducible exact LeO.refl _)
      | (with_reducible exact LeO.none _)
      | (with_reducible refine LeO.ite ?_ ?_)
      | (with_reducible refine LeO.bind ?_ (fun _ => ?_))
      | exact ih0 _ _ _
      | exact LeO.none _
      | refine LeO.ite ?_ ?_
      | refine LeO.bind ?_ (fun _ => ?_)
set_option maxHeartbeats 8000000 in
set_option maxRecDepth 100000 in
theorem limnerref03_product.calls (k : Nat) (a0 : Int) (a1 : Int) (r1 : Int) (r2 : Int) (r3 : Int) (w : World) (h : limnerref03_product.f k a0 a1 = some (r1, r2, r3)) :
    Calls Try.prog 31 #[.int .i64 a0, .int .i64 a1] w fun e w' => e = .returned (.tuple #[.int .i64 r1, .int .i64 r2, .int .i64 r3]) ∧ Drawn0 w w' := by
  have H : (if a0 < 0 then (limnerref03_product.j0 k (wrap64 (-a0)) a1 (-1)) else (limnerref03_product.j0 k a0 a1 1)) = some (r1, r2, r3) := h
  clear h
  have HC3 := Aside0.mk H
  clear H
  go_enter Try.func31, Try.ntmps31
  go_upto_if 10 with (fail)
  go_cut [0, 7] (fun v0 v7 wc => ∃ (kq : Nat) (x0_2 : Int) (x7_2 : Int), v0 = .int .i64 x0_2 ∧ v7 = .int .i64 x7_2 ∧ Aside0 (limnerref03_product.j0 kq x0_2 a1 x7_2 = some (r1, r2, r3)) ∧ Aside0 (kq ≤ k) ∧ Drawn0 w wc)
  case first =>
    have H := HC3.out
    clear HC3
    by_cases c4 : a0 < 0
    · rw [if_pos c4] at H
      have c4b0 : decide (a0 < 0) = true := decide_eq_true c4
      clear c4
      (first | rw [c4b0] | (simp only [i64_w, i32_w]; rw [c4b0]) | skip)
      have H' := Aside0.mk H
      clear H
      go_wp2
      go_meet
      case rel => exact ⟨_, (wrap64 (-a0)), (-1), (by first | rfl | (simp; done) | (simp [*]; done)), (by first | rfl | (simp; done) | (simp [*]; done)), H', ⟨by first | omega | exact Nat.le_refl _⟩, by repeat (first | exact Drawn0.refl _ | apply Drawn0.step)⟩
    · rw [if_neg c4] at H
      have c4b0 : decide (a0 < 0) = false := decide_eq_false c4
      clear c4
      (first | rw [c4b0] | (simp only [i64_w, i32_w]; rw [c4b0]) | skip)
      have H' := Aside0.mk H
      clear H
      go_wp2
      go_meet
      case rel => exact ⟨_, (a0), (1), (by first | rfl | (simp; done) | (simp [*]; done)), (by first | rfl | (simp; done) | (simp [*]; done)), H', ⟨by first | omega | exact Nat.le_refl _⟩, by repeat (first | exact Drawn0.refl _ | apply Drawn0.step)⟩
  case rest =>
    clear HC3
    try clear p2
    try clear c3
    try clear c4
    try clear c4b0
    obtain ⟨kq, x0_2, x7_2, rfl, rfl, HA, HJ2, ⟨mc2, rfl⟩⟩ := hcut
    cases kq with
    | zero => exact absurd HA.out (by simp [limnerref03_product.j0])
    | succ kj2 =>
      have H := HA.out
      clear HA
      simp only [limnerref03_product.j0] at H
      by_cases c5 : a1 < 0
      · rw [if_pos c5] at H
        have c5b0 : decide (a1 < 0) = true := decide_eq_true c5
        clear c5
        by_cases c6 : x0_2 = 0
        · rw [if_pos c6] at H
          have c6b0 : (x0_2 == 0) = true := beq_iff_eq.mpr c6
          have c6b1 : (x0_2 != 0) = false := bne_eq_false_iff_eq.mpr c6
          clear c6
          simp only [Option.some.injEq, Prod.mk.injEq] at H
          obtain ⟨rfl, rfl, rfl⟩ := H
          go_wp2
          go_ret3
          exact ⟨by first | rfl | (simp; done) | (simp [*]; done), by repeat (first | exact Drawn0.refl _ | apply Drawn0.step)⟩
        · rw [if_neg c6] at H
          have c6b0 : (x0_2 == 0) = false := beq_eq_false_iff_ne.mpr c6
          have c6b1 : (x0_2 != 0) = true := bne_iff_ne.mpr c6
          by_cases c7 : (wrap64 (-a1)) = 0
          · rw [if_pos c7] at H
            have c7b0 : ((wrap64 (-a1)) == 0) = true := beq_iff_eq.mpr c7
            have c7b1 : ((wrap64 (-a1)) != 0) = false := bne_eq_false_iff_eq.mpr c7
            clear c7
            simp only [Option.some.injEq, Prod.mk.injEq] at H
            obtain ⟨rfl, rfl, rfl⟩ := H
            go_wp2
            go_ret3
            exact ⟨by first | rfl | (simp; done) | (simp [*]; done), by repeat (first | exact Drawn0.refl _ | apply Drawn0.step)⟩
          · rw [if_neg c7] at H
            have c7b0 : ((wrap64 (-a1)) == 0) = false := beq_eq_false_iff_ne.mpr c7
            have c7b1 : ((wrap64 (-a1)) != 0) = true := bne_iff_ne.mpr c7
            simp only [Option.some.injEq, Prod.mk.injEq] at H
            obtain ⟨rfl, rfl, rfl⟩ := H
            go_wp2
            go_ret3
            exact ⟨by first | rfl | (simp; done) | (simp [*]; done), by repeat (first | exact Drawn0.refl _ | apply Drawn0.step)⟩
      · rw [if_neg c5] at H
        have c5b0 : decide (a1 < 0) = false := decide_eq_false c5
        clear c5
        by_cases c8 : x0_2 = 0
        · rw [if_pos c8] at H
          have c8b0 : (x0_2 == 0) = true := beq_iff_eq.mpr c8
          have c8b1 : (x0_2 != 0) = false := bne_eq_false_iff_eq.mpr c8
          clear c8
          simp only [Option.some.injEq, Prod.mk.injEq] at H
          obtain ⟨rfl, rfl, rfl⟩ := H
          go_wp2
          go_ret3
          exact ⟨by first | rfl | (simp; done) | (simp [*]; done), by repeat (first | exact Drawn0.refl _ | apply Drawn0.step)⟩
        · rw [if_neg c8] at H
          have c8b0 : (x0_2 == 0) = false := beq_eq_false_iff_ne.mpr c8
          have c8b1 : (x0_2 != 0) = true := bne_iff_ne.mpr c8
          by_cases c9 : a1 = 0
          · rw [if_pos c9] at H
            have c9b0 : (a1 == 0) = true := beq_iff_eq.mpr c9
            have c9b1 : (a1 != 0) = false := bne_eq_false_iff_eq.mpr c9
            clear c9
            simp only [Option.some.injEq, Prod.mk.injEq] at H
            obtain ⟨rfl, rfl, rfl⟩ := H
            go_wp2
            go_ret3
            exact ⟨by first | rfl | (simp; done) | (simp [*]; done), by repeat (first | exact Drawn0.refl _ | apply Drawn0.step)⟩
          · rw [if_neg c9] at H
            have c9b0 : (a1 == 0) = false := beq_eq_false_iff_ne.mpr c9
            have c9b1 : (a1 != 0) = true := bne_iff_ne.mpr c9
            simp only [Option.some.injEq, Prod.mk.injEq] at H
            obtain ⟨rfl, rfl, rfl⟩ := H
            go_wp2
            go_ret3
            exact ⟨by first | rfl | (simp; done) | (simp [*]; done), by repeat (first | exact Drawn0.refl _ | apply Drawn0.step)⟩

/-! ### limnerref03_Side: function 18 -/
def limnerref03_Side.j0 : Nat → Int → Int → Int → Int → Int → Bool → Option (Int)
  | 0, _, _, _, _, _, _ => none
  | k + 1, x7, x8, x9, x11, x12, x56 => if x56 = true then (some 0) else (if x8 > x11 then (some x7) else (if x8 = x11 then (if x9 > x12 then (some x7) else (some (wrap64 (-x7)))) else (some (wrap64 (-x7)))))
def limnerref03_Side.f (k : Nat) (a0_0 : Int) (a0_1 : Int) (a1_0 : Int) (a1_1 : Int) (a2_0 : Int) (a2_1 : Int) : Option (Int) := (limnerref03_product.f k (wrap64 (a1_0 - a0_0)) (wrap64 (a2_1 - a0_1))).bind fun bt188 => ((limnerref03_product.f k (wrap64 (a1_1 - a0_1)) (wrap64 (a2_0 - a0_0))).bind fun bt191 => (if bt188.1 = bt191.1 then (if bt188.2.1 = bt191.2.1 then (limnerref03_Side.j0 k bt188.1 bt188.2.1 bt188.2.2 bt191.2.1 bt191.2.2 (bt188.2.2 == bt191.2.2)) else (limnerref03_Side.j0 k bt188.1 bt188.2.1 bt188.2.2 bt191.2.1 bt191.2.2 false)) else (if bt188.1 > bt191.1 then (some 1) else (some (-1)))))
theorem limnerref03_Side.mono_l : ∀ k, (∀ y0 y1 y2 y3 y4 y5, LeO (limnerref03_Side.j0 k y0 y1 y2 y3 y4 y5) (limnerref03_Side.j0 (k + 1) y0 y1 y2 y3 y4 y5))
  | 0 => fun _ _ _ _ _ _ r h => by simp [limnerref03_Side.j0] at h
  | k + 1 => by
    have ih0 := limnerref03_Side.mono_l k
    · intro y0 y1 y2 y3 y4 y5
      unfold limnerref03_Side.j0
      repeat' first
      | (with_reducible exact ih0 _ _ _ _ _ _)
      | (with_reducible exact limnerref03_product.mono _ _ _)
      | (with_reducible exact LeO.refl _)
      | (with_reducible exact LeO.none _)
      | (with_reducible refine LeO.ite ?_ ?_)
      | (with_reducible refine LeO.bind ?_ (fun _ => ?_))
      | exact ih0 _ _ _ _ _ _
      | exact limnerref03_product.mono _ _ _
      | exact LeO.none _
      | refine LeO.ite ?_ ?_
      | refine LeO.bind ?_ (fun _ => ?_)
theorem limnerref03_Side.mono : ∀ a0 a1 a2 a3 a4 a5 k, LeO (limnerref03_Side.f k a0 a1 a2 a3 a4 a5) (limnerref03_Side.f (k + 1) a0 a1 a2 a3 a4 a5) := by
  intro a0 a1 a2 a3 a4 a5 k
  have ih0 := limnerref03_Side.mono_l k
  unfold limnerref03_Side.f
  repeat' first
      | (with_reducible exact ih0 _ _ _ _ _ _)
      | (with_reducible exact limnerref03_product.mono _ _ _)
      | (with_reducible exact LeO.refl _)
      | (with_reducible exact LeO.none _)
      | (with_reducible refine LeO.ite ?_ ?_)
      | (with_reducible refine LeO.bind ?_ (fun _ => ?_))
      | exact ih0 _ _ _ _ _ _
      | exact limnerref03_product.mono _ _ _
      | exact LeO.none _
      | refine LeO.ite ?_ ?_
      | refine LeO.bind ?_ (fun _ => ?_)
set_option maxHeartbeats 8000000 in
set_option maxRecDepth 100000 in
theorem limnerref03_Side.calls (k : Nat) (a0_0 : Int) (a0_1 : Int) (a1_0 : Int) (a1_1 : Int) (a2_0 : Int) (a2_1 : Int) (r : Int) (w : World) (h : limnerref03_Side.f k a0_0 a0_1 a1_0 a1_1 a2_0 a2_1 = some r) :
    Calls Try.prog 18 #[.agg #[.int .i64 a0_0, .int .i64 a0_1], .agg #[.int .i64 a1_0, .int .i64 a1_1], .agg #[.int .i64 a2_0, .int .i64 a2_1]] w fun e w' => e = .returned (.int .i64 r) ∧ Below w.heap.size w w' := by
  have hu28 := Try.underlying28
  have HB := Aside0.mk (Below.refl w.heap.size w)
  have H : ((limnerref03_product.f k (wrap64 (a1_0 - a0_0)) (wrap64 (a2_1 - a0_1))).bind fun bt188 => ((limnerref03_product.f k (wrap64 (a1_1 - a0_1)) (wrap64 (a2_0 - a0_0))).bind fun bt191 => (if bt188.1 = bt191.1 then (if bt188.2.1 = bt191.2.1 then (limnerref03_Side.j0 k bt188.1 bt188.2.1 bt188.2.2 bt191.2.1 bt191.2.2 (bt188.2.2 == bt191.2.2)) else (limnerref03_Side.j0 k bt188.1 bt188.2.1 bt188.2.2 bt191.2.1 bt191.2.2 false)) else (if bt188.1 > bt191.1 then (some 1) else (some (-1)))))) = some r := h
  clear h
  replace H := Option.bind_eq_some_iff.mp H
  obtain ⟨⟨t188, t189, t190⟩, A40, H⟩ := H
  replace H : ((limnerref03_product.f k (wrap64 (a1_1 - a0_1)) (wrap64 (a2_0 - a0_0))).bind fun bt191 => (if t188 = bt191.1 then (if t189 = bt191.2.1 then (limnerref03_Side.j0 k t188 t189 t190 bt191.2.1 bt191.2.2 (t190 == bt191.2.2)) else (limnerref03_Side.j0 k t188 t189 t190 bt191.2.1 bt191.2.2 false)) else (if t188 > bt191.1 then (some 1) else (some (-1))))) = some r := H
  have A4 := Aside0.mk A40
  clear A40
  replace H := Option.bind_eq_some_iff.mp H
  obtain ⟨⟨t191, t192, t193⟩, A50, H⟩ := H
  replace H : (if t188 = t191 then (if t189 = t192 then (limnerref03_Side.j0 k t188 t189 t190 t192 t193 (t190 == t193)) else (limnerref03_Side.j0 k t188 t189 t190 t192 t193 false)) else (if t188 > t191 then (some 1) else (some (-1)))) = some r := H
  have A5 := Aside0.mk A50
  clear A50
  by_cases c6 : t188 = t191
  · rw [if_pos c6] at H
    have c6b0 : (t188 == t191) = true := beq_iff_eq.mpr c6
    have c6b1 : (t188 != t191) = false := bne_eq_false_iff_eq.mpr c6
    clear c6
    have HC7 := Aside0.mk H
    clear H
    go_enter Try.func18, Try.ntmps18
    go_upto_region 7 with (first | ((with_reducible refine gate_dst (N := 3) rfl ?_); refine box_event ?hg (N := 3) ?hd (cs := #[.int .i64 a0_0, .int .i64 a0_1]) (t := 28) ?hr ?_; (case hd => rfl); (case hg => rfl); (case hr => first | (go_simp; done) | (go_simp; rfl)); intro gb185 hg w8 hbox hb; have n0_ := Aside0.mk (below_step (by repeat (first | (with_reducible first | exact HB.out | apply below_alloc | apply pw_below_drewN | apply below_drew1) | exact HB.out)) hb); have n1_ := Aside0.mk (hbox); have n2_ := Aside0.mk ((by rw [hg]; exact (below_size (by repeat (first | (with_reducible first | exact HB.out | apply below_alloc | apply pw_below_drewN | apply below_drew1) | exact HB.out))) : w.heap.size ≤ gb185)); have n3_ := Aside0.mk ((by rw [hg]; exact (below_size (by repeat (first | (with_reducible first | exact HB.out | apply below_alloc | apply pw_below_drewN | apply below_drew1) | exact HB.out))) : w.heap.size ≤ gb185)); clear HB; have HB := n0_; have BK185 := n1_; have GW185 := n2_; have GE185 := n3_; clear n0_ n1_ n2_ n3_; clear hb hbox hg) | ((with_reducible refine gate_dst (N := 4) rfl ?_); refine box_event ?hg (N := 4) ?hd (cs := #[.int .i64 a1_0, .int .i64 a1_1]) (t := 28) ?hr ?_; (case hd => rfl); (case hg => rfl); (case hr => first | (go_simp; done) | (go_simp; rfl)); intro gb186 hg w9 hbox hb; have n0_ := Aside0.mk (blk_below (g := gb185) (o := .cells #[.int .i64 a0_0, .int .i64 a0_1] 28 (0, 0)) (by (with_reducible repeat (first | refine blk_drewN ?_ _ | refine blk_drew ?_ | refine blk_alloc ?_ _)); exact BK185.out) hb); have n1_ := Aside0.mk (below_step (by repeat (first | (with_reducible first | exact HB.out | apply below_alloc | apply pw_below_drewN | apply below_drew1 | refine below_set ?_ GE185.out) | exact HB.out)) hb); have n2_ := Aside0.mk (hbox); have n3_ := Aside0.mk ((by rw [hg]; exact (below_size (by repeat (first | (with_reducible first | exact HB.out | apply below_alloc | apply pw_below_drewN | apply below_drew1 | refine below_set ?_ GE185.out) | exact HB.out))) : w.heap.size ≤ gb186)); have n4_ := Aside0.mk ((by rw [hg]; exact (below_size (by repeat (first | (with_reducible first | exact HB.out | apply below_alloc | apply pw_below_drewN | apply below_drew1 | refine below_set ?_ GE185.out) | exact HB.out))) : w.heap.size ≤ gb186)); have n5_ := Aside0.mk ((by rw [hg]; exact Nat.ne_of_lt (blk_lt (g := gb185) (o := .cells #[.int .i64 a0_0, .int .i64 a0_1] 28 (0, 0)) (by (with_reducible repeat (first | refine blk_drewN ?_ _ | refine blk_drew ?_ | refine blk_alloc ?_ _)); exact BK185.out)) : gb185 ≠ gb186)); have n6_ := Aside0.mk ((by rw [hg]; exact Nat.ne_of_gt (blk_lt (g := gb185) (o := .cells #[.int .i64 a0_0, .int .i64 a0_1] 28 (0, 0)) (by (with_reducible repeat (first | refine blk_drewN ?_ _ | refine blk_drew ?_ | refine blk_alloc ?_ _)); exact BK185.out)) : gb186 ≠ gb185)); clear BK185; clear HB; have BK185 := n0_; have HB := n1_; have BK186 := n2_; have GW186 := n3_; have GE186 := n4_; have NB185_186 := n5_; have NB186_185 := n6_; clear n0_ n1_ n2_ n3_ n4_ n5_ n6_; clear hb hbox hg) | ((with_reducible refine gate_dst (N := 5) rfl ?_); refine box_event ?hg (N := 5) ?hd (cs := #[.int .i64 a2_0, .int .i64 a2_1]) (t := 28) ?hr ?_; (case hd => rfl); (case hg => rfl); (case hr => first | (go_simp; done) | (go_simp; rfl)); intro gb187 hg w10 hbox hb; have n0_ := Aside0.mk (blk_below (g := gb185) (o := .cells #[.int .i64 a0_0, .int .i64 a0_1] 28 (0, 0)) (by (with_reducible repeat (first | refine blk_drewN ?_ _ | refine blk_drew ?_ | refine blk_alloc ?_ _)); exact BK185.out) hb); have n1_ := Aside0.mk (blk_below (g := gb186) (o := .cells #[.int .i64 a1_0, .int .i64 a1_1] 28 (0, 0)) (by (with_reducible repeat (first | refine blk_drewN ?_ _ | refine blk_drew ?_ | refine blk_alloc ?_ _)); exact BK186.out) hb); have n2_ := Aside0.mk (below_step (by repeat (first | (with_reducible first | exact HB.out | apply below_alloc | apply pw_below_drewN | apply below_drew1 | refine below_set ?_ GE185.out | refine below_set ?_ GE186.out) | exact HB.out)) hb); have n3_ := Aside0.mk (hbox); have n4_ := Aside0.mk ((by rw [hg]; exact (below_size (by repeat (first | (with_reducible first | exact HB.out | apply below_alloc | apply pw_below_drewN | apply below_drew1 | refine below_set ?_ GE185.out | refine below_set ?_ GE186.out) | exact HB.out))) : w.heap.size ≤ gb187)); have n5_ := Aside0.mk ((by rw [hg]; exact (below_size (by repeat (first | (with_reducible first | exact HB.out | apply below_alloc | apply pw_below_drewN | apply below_drew1 | refine below_set ?_ GE185.out | refine below_set ?_ GE186.out) | exact HB.out))) : w.heap.size ≤ gb187)); have n6_ := Aside0.mk ((by rw [hg]; exact Nat.ne_of_lt (blk_lt (g := gb185) (o := .cells #[.int .i64 a0_0, .int .i64 a0_1] 28 (0, 0)) (by (with_reducible repeat (first | refine blk_drewN ?_ _ | refine blk_drew ?_ | refine blk_alloc ?_ _)); exact BK185.out)) : gb185 ≠ gb187)); have n7_ := Aside0.mk ((by rw [hg]; exact Nat.ne_of_gt (blk_lt (g := gb185) (o := .cells #[.int .i64 a0_0, .int .i64 a0_1] 28 (0, 0)) (by (with_reducible repeat (first | refine blk_drewN ?_ _ | refine blk_drew ?_ | refine blk_alloc ?_ _)); exact BK185.out)) : gb187 ≠ gb185)); have n8_ := Aside0.mk ((by rw [hg]; exact Nat.ne_of_lt (blk_lt (g := gb186) (o := .cells #[.int .i64 a1_0, .int .i64 a1_1] 28 (0, 0)) (by (with_reducible repeat (first | refine blk_drewN ?_ _ | refine blk_drew ?_ | refine blk_alloc ?_ _)); exact BK186.out)) : gb186 ≠ gb187)); have n9_ := Aside0.mk ((by rw [hg]; exact Nat.ne_of_gt (blk_lt (g := gb186) (o := .cells #[.int .i64 a1_0, .int .i64 a1_1] 28 (0, 0)) (by (with_reducible repeat (first | refine blk_drewN ?_ _ | refine blk_drew ?_ | refine blk_alloc ?_ _)); exact BK186.out)) : gb187 ≠ gb186)); clear BK185; clear BK186; clear HB; have BK185 := n0_; have BK186 := n1_; have HB := n2_; have BK187 := n3_; have GW187 := n4_; have GE187 := n5_; have NB185_187 := n6_; have NB187_185 := n7_; have NB186_187 := n8_; have NB187_186 := n9_; clear n0_ n1_ n2_ n3_ n4_ n5_ n6_ n7_ n8_ n9_; clear hb hbox hg; have hnb11 := NB186_185.out; have hnc11 := NB185_186.out; have hnb12 := NB186_187.out; have hnc12 := NB187_186.out; have hcz13_0 : w10.cell? ⟨gb186, 0, none⟩ = some (.int .i64 a1_0) := (blk_cell BK186.out 0).trans rfl; have hcz13_1 : w10.cell? ⟨gb186, 1, none⟩ = some (.int .i64 a1_1) := (blk_cell BK186.out 1).trans rfl; have hfz13_0 := blk_frozen BK186.out 0; have hfz13_1 := blk_frozen BK186.out 1; have hnb14 := NB185_187.out; have hnc14 := NB187_185.out; have hcz15_0 : w10.cell? ⟨gb185, 0, none⟩ = some (.int .i64 a0_0) := (blk_cell BK185.out 0).trans rfl; have hcz15_1 : w10.cell? ⟨gb185, 1, none⟩ = some (.int .i64 a0_1) := (blk_cell BK185.out 1).trans rfl; have hfz15_0 := blk_frozen BK185.out 0; have hfz15_1 := blk_frozen BK185.out 1; have hcz16_0 : w10.cell? ⟨gb187, 0, none⟩ = some (.int .i64 a2_0) := (blk_cell BK187.out 0).trans rfl; have hcz16_1 : w10.cell? ⟨gb187, 1, none⟩ = some (.int .i64 a2_1) := (blk_cell BK187.out 1).trans rfl; have hfz16_0 := blk_frozen BK187.out 0; have hfz16_1 := blk_frozen BK187.out 1) | ((with_reducible refine gate_callee (f := 31) rfl ?_); refine goesL_ (some 24) rfl rfl Try.func31 (by kernel_rfl) rfl #[.int .i64 (wrap64 (a1_0 - a0_0)), .int .i64 (wrap64 (a2_1 - a0_1))] rfl (by (try simp only [List.map_toArray, List.map_cons, List.map_nil]); first | done | rfl | (simp only [List.length_drop, List.length_take]; rfl)) ?_; (with_reducible refine (limnerref03_product.calls k (wrap64 (a1_0 - a0_0)) (wrap64 (a2_1 - a0_1)) t188 t189 t190 _ A4.out).mono ?_); rintro e w' ⟨rfl, ⟨nd, rfl⟩⟩; refine ⟨_, rfl, ?_⟩) | ((with_reducible refine gate_callee (f := 31) rfl ?_); refine goesL_ (some 39) rfl rfl Try.func31 (by kernel_rfl) rfl #[.int .i64 (wrap64 (a1_1 - a0_1)), .int .i64 (wrap64 (a2_0 - a0_0))] rfl (by (try simp only [List.map_toArray, List.map_cons, List.map_nil]); first | done | rfl | (simp only [List.length_drop, List.length_take]; rfl)) ?_; (with_reducible refine (limnerref03_product.calls k (wrap64 (a1_1 - a0_1)) (wrap64 (a2_0 - a0_0)) t191 t192 t193 _ A5.out).mono ?_); rintro e w' ⟨rfl, ⟨nd, rfl⟩⟩; refine ⟨_, rfl, ?_⟩))
    (try simp only [Act.put, List.setIfInBounds_toArray, List.set_cons_zero, List.set_cons_succ])
    go_cut [56] (fun v56 wc => ∃ (kq : Nat) (x56_6 : Bool), v56 = .bool x56_6 ∧ Aside0 (limnerref03_Side.j0 kq t188 t189 t190 t192 t193 x56_6 = some r) ∧ Aside0 (kq ≤ k) ∧ Aside0 (wc.heap[gb185]? = some (.cells #[.int .i64 a0_0, .int .i64 a0_1] 28 (0, 0))) ∧ Aside0 (wc.heap[gb186]? = some (.cells #[.int .i64 a1_0, .int .i64 a1_1] 28 (0, 0))) ∧ Aside0 (wc.heap[gb187]? = some (.cells #[.int .i64 a2_0, .int .i64 a2_1] 28 (0, 0))) ∧ Aside0 (Below w.heap.size w wc))
    case first =>
      have H := HC7.out
      clear HC7
      by_cases c17 : t189 = t192
      · rw [if_pos c17] at H
        have c17b0 : (t189 == t192) = true := beq_iff_eq.mpr c17
        have c17b1 : (t189 != t192) = false := bne_eq_false_iff_eq.mpr c17
        clear c17
        (first | rw [c17b0] | (simp only [i64_w, i32_w]; rw [c17b0]) | skip)
        have H' := Aside0.mk H
        clear H
        go_wp2
        go_meet
        case rel => exact ⟨_, ((t190 == t193)), (by first | rfl | (simp; done) | (simp [*]; done)), H', ⟨by first | omega | exact Nat.le_refl _⟩, ⟨by (with_reducible repeat (first | refine blk_drewN ?_ _ | refine blk_drew ?_ | refine blk_alloc ?_ _)); exact BK185.out⟩, ⟨by (with_reducible repeat (first | refine blk_drewN ?_ _ | refine blk_drew ?_ | refine blk_alloc ?_ _)); exact BK186.out⟩, ⟨by (with_reducible repeat (first | refine blk_drewN ?_ _ | refine blk_drew ?_ | refine blk_alloc ?_ _)); exact BK187.out⟩, ⟨by repeat (first | (with_reducible first | exact HB.out | apply below_alloc | apply pw_below_drewN | apply below_drew1 | refine below_set ?_ GE185.out | refine below_set ?_ GE186.out | refine below_set ?_ GE187.out) | exact HB.out)⟩⟩
      · rw [if_neg c17] at H
        have c17b0 : (t189 == t192) = false := beq_eq_false_iff_ne.mpr c17
        have c17b1 : (t189 != t192) = true := bne_iff_ne.mpr c17
        (first | rw [c17b0] | (simp only [i64_w, i32_w]; rw [c17b0]) | skip)
        have H' := Aside0.mk H
        clear H
        go_wp2
        go_meet
        case rel => exact ⟨_, (false), (by first | rfl | (simp; done) | (simp [*]; done)), H', ⟨by first | omega | exact Nat.le_refl _⟩, ⟨by (with_reducible repeat (first | refine blk_drewN ?_ _ | refine blk_drew ?_ | refine blk_alloc ?_ _)); exact BK185.out⟩, ⟨by (with_reducible repeat (first | refine blk_drewN ?_ _ | refine blk_drew ?_ | refine blk_alloc ?_ _)); exact BK186.out⟩, ⟨by (with_reducible repeat (first | refine blk_drewN ?_ _ | refine blk_drew ?_ | refine blk_alloc ?_ _)); exact BK187.out⟩, ⟨by repeat (first | (with_reducible first | exact HB.out | apply below_alloc | apply pw_below_drewN | apply below_drew1 | refine below_set ?_ GE185.out | refine below_set ?_ GE186.out | refine below_set ?_ GE187.out) | exact HB.out)⟩⟩
    case rest =>
      clear HC7
      try clear c1
      try clear p2
      try clear c3
      try clear c6
      try clear c6b0
      try clear c6b1
      try clear p6
      try clear c11
      try clear c12
      try clear c14
      try clear c17
      try clear c17b0
      try clear c17b1
      try clear hcz13_0
      try clear hcz13_1
      try clear hcz15_0
      try clear hcz15_1
      try clear hcz16_0
      try clear hcz16_1
      try clear hfz13_0
      try clear hfz13_1
      try clear hfz15_0
      try clear hfz15_1
      try clear hfz16_0
      try clear hfz16_1
      obtain ⟨kq, x56_6, rfl, HA, HJ6, BK185, BK186, BK187, HB⟩ := hcut
      cases kq with
      | zero => exact absurd HA.out (by simp [limnerref03_Side.j0])
      | succ kj6 =>
        have H := HA.out
        clear HA
        simp only [limnerref03_Side.j0] at H
        by_cases c18 : x56_6 = true
        · subst c18
          have H1 : (some 0) = some r := by rw [if_pos rfl] at H; exact H
          clear H
          have H := H1
          clear H1
          obtain rfl := Option.some.inj H
          go_wp2
          go_ret
          exact ⟨by first | rfl | (simp [errW_none, errW_some] <;> rfl) | (simp [*, errW_none, errW_some] <;> rfl), by repeat (first | (with_reducible first | exact HB.out | apply below_alloc | apply pw_below_drewN | apply below_drew1 | refine below_set ?_ GE185.out | refine below_set ?_ GE186.out | refine below_set ?_ GE187.out) | exact HB.out)⟩
        · replace c18 := Bool.eq_false_iff.mpr c18
          subst c18
          have H1 : (if t189 > t192 then (some t188) else (if t189 = t192 then (if t190 > t193 then (some t188) else (some (wrap64 (-t188)))) else (some (wrap64 (-t188))))) = some r := by rw [if_neg (show ¬ (false = true) by decide)] at H; exact H
          clear H
          have H := H1
          clear H1
          by_cases c19 : t189 > t192
          · rw [if_pos c19] at H
            have c19b0 : decide (t192 < t189) = true := decide_eq_true c19
            clear c19
            obtain rfl := Option.some.inj H
            go_wp2
            go_ret
            exact ⟨by first | rfl | (simp [errW_none, errW_some] <;> rfl) | (simp [*, errW_none, errW_some] <;> rfl), by repeat (first | (with_reducible first | exact HB.out | apply below_alloc | apply pw_below_drewN | apply below_drew1 | refine below_set ?_ GE185.out | refine below_set ?_ GE186.out | refine below_set ?_ GE187.out) | exact HB.out)⟩
          · rw [if_neg c19] at H
            have c19b0 : decide (t192 < t189) = false := decide_eq_false c19
            clear c19
            by_cases c20 : t189 = t192
            · rw [if_pos c20] at H
              have c20b0 : (t189 == t192) = true := beq_iff_eq.mpr c20
              have c20b1 : (t189 != t192) = false := bne_eq_false_iff_eq.mpr c20
              clear c20
              by_cases c21 : t190 > t193
              · rw [if_pos c21] at H
                have c21b0 : decide (t193 < t190) = true := decide_eq_true c21
                clear c21
                obtain rfl := Option.some.inj H
                go_wp2
                go_ret
                exact ⟨by first | rfl | (simp [errW_none, errW_some] <;> rfl) | (simp [*, errW_none, errW_some] <;> rfl), by repeat (first | (with_reducible first | exact HB.out | apply below_alloc | apply pw_below_drewN | apply below_drew1 | refine below_set ?_ GE185.out | refine below_set ?_ GE186.out | refine below_set ?_ GE187.out) | exact HB.out)⟩
              · rw [if_neg c21] at H
                have c21b0 : decide (t193 < t190) = false := decide_eq_false c21
                clear c21
                obtain rfl := Option.some.inj H
                go_wp2
                go_ret
                exact ⟨by first | rfl | (simp [errW_none, errW_some] <;> rfl) | (simp [*, errW_none, errW_some] <;> rfl), by repeat (first | (with_reducible first | exact HB.out | apply below_alloc | apply pw_below_drewN | apply below_drew1 | refine below_set ?_ GE185.out | refine below_set ?_ GE186.out | refine below_set ?_ GE187.out) | exact HB.out)⟩
            · rw [if_neg c20] at H
              have c20b0 : (t189 == t192) = false := beq_eq_false_iff_ne.mpr c20
              have c20b1 : (t189 != t192) = true := bne_iff_ne.mpr c20
              obtain rfl := Option.some.inj H
              go_wp2
              go_ret
              exact ⟨by first | rfl | (simp [errW_none, errW_some] <;> rfl) | (simp [*, errW_none, errW_some] <;> rfl), by repeat (first | (with_reducible first | exact HB.out | apply below_alloc | apply pw_below_drewN | apply below_drew1 | refine below_set ?_ GE185.out | refine below_set ?_ GE186.out | refine below_set ?_ GE187.out) | exact HB.out)⟩
  · rw [if_neg c6] at H
    have c6b0 : (t188 == t191) = false := beq_eq_false_iff_ne.mpr c6
    have c6b1 : (t188 != t191) = true := bne_iff_ne.mpr c6
    by_cases c22 : t188 > t191
    · rw [if_pos c22] at H
      have c22b0 : decide (t191 < t188) = true := decide_eq_true c22
      clear c22
      obtain rfl := Option.some.inj H
      go_enter Try.func18, Try.ntmps18
      go_wp2_with (first | ((with_reducible refine gate_dst (N := 3) rfl ?_); refine box_event ?hg (N := 3) ?hd (cs := #[.int .i64 a0_0, .int .i64 a0_1]) (t := 28) ?hr ?_; (case hd => rfl); (case hg => rfl); (case hr => first | (go_simp; done) | (go_simp; rfl)); intro gb185 hg w23 hbox hb; have n0_ := Aside0.mk (below_step (by repeat (first | (with_reducible first | exact HB.out | apply below_alloc | apply pw_below_drewN | apply below_drew1) | exact HB.out)) hb); have n1_ := Aside0.mk (hbox); have n2_ := Aside0.mk ((by rw [hg]; exact (below_size (by repeat (first | (with_reducible first | exact HB.out | apply below_alloc | apply pw_below_drewN | apply below_drew1) | exact HB.out))) : w.heap.size ≤ gb185)); have n3_ := Aside0.mk ((by rw [hg]; exact (below_size (by repeat (first | (with_reducible first | exact HB.out | apply below_alloc | apply pw_below_drewN | apply below_drew1) | exact HB.out))) : w.heap.size ≤ gb185)); clear HB; have HB := n0_; have BK185 := n1_; have GW185 := n2_; have GE185 := n3_; clear n0_ n1_ n2_ n3_; clear hb hbox hg) | ((with_reducible refine gate_dst (N := 4) rfl ?_); refine box_event ?hg (N := 4) ?hd (cs := #[.int .i64 a1_0, .int .i64 a1_1]) (t := 28) ?hr ?_; (case hd => rfl); (case hg => rfl); (case hr => first | (go_simp; done) | (go_simp; rfl)); intro gb186 hg w24 hbox hb; have n0_ := Aside0.mk (blk_below (g := gb185) (o := .cells #[.int .i64 a0_0, .int .i64 a0_1] 28 (0, 0)) (by (with_reducible repeat (first | refine blk_drewN ?_ _ | refine blk_drew ?_ | refine blk_alloc ?_ _)); exact BK185.out) hb); have n1_ := Aside0.mk (below_step (by repeat (first | (with_reducible first | exact HB.out | apply below_alloc | apply pw_below_drewN | apply below_drew1 | refine below_set ?_ GE185.out) | exact HB.out)) hb); have n2_ := Aside0.mk (hbox); have n3_ := Aside0.mk ((by rw [hg]; exact (below_size (by repeat (first | (with_reducible first | exact HB.out | apply below_alloc | apply pw_below_drewN | apply below_drew1 | refine below_set ?_ GE185.out) | exact HB.out))) : w.heap.size ≤ gb186)); have n4_ := Aside0.mk ((by rw [hg]; exact (below_size (by repeat (first | (with_reducible first | exact HB.out | apply below_alloc | apply pw_below_drewN | apply below_drew1 | refine below_set ?_ GE185.out) | exact HB.out))) : w.heap.size ≤ gb186)); have n5_ := Aside0.mk ((by rw [hg]; exact Nat.ne_of_lt (blk_lt (g := gb185) (o := .cells #[.int .i64 a0_0, .int .i64 a0_1] 28 (0, 0)) (by (with_reducible repeat (first | refine blk_drewN ?_ _ | refine blk_drew ?_ | refine blk_alloc ?_ _)); exact BK185.out)) : gb185 ≠ gb186)); have n6_ := Aside0.mk ((by rw [hg]; exact Nat.ne_of_gt (blk_lt (g := gb185) (o := .cells #[.int .i64 a0_0, .int .i64 a0_1] 28 (0, 0)) (by (with_reducible repeat (first | refine blk_drewN ?_ _ | refine blk_drew ?_ | refine blk_alloc ?_ _)); exact BK185.out)) : gb186 ≠ gb185)); clear BK185; clear HB; have BK185 := n0_; have HB := n1_; have BK186 := n2_; have GW186 := n3_; have GE186 := n4_; have NB185_186 := n5_; have NB186_185 := n6_; clear n0_ n1_ n2_ n3_ n4_ n5_ n6_; clear hb hbox hg) | ((with_reducible refine gate_dst (N := 5) rfl ?_); refine box_event ?hg (N := 5) ?hd (cs := #[.int .i64 a2_0, .int .i64 a2_1]) (t := 28) ?hr ?_; (case hd => rfl); (case hg => rfl); (case hr => first | (go_simp; done) | (go_simp; rfl)); intro gb187 hg w25 hbox hb; have n0_ := Aside0.mk (blk_below (g := gb185) (o := .cells #[.int .i64 a0_0, .int .i64 a0_1] 28 (0, 0)) (by (with_reducible repeat (first | refine blk_drewN ?_ _ | refine blk_drew ?_ | refine blk_alloc ?_ _)); exact BK185.out) hb); have n1_ := Aside0.mk (blk_below (g := gb186) (o := .cells #[.int .i64 a1_0, .int .i64 a1_1] 28 (0, 0)) (by (with_reducible repeat (first | refine blk_drewN ?_ _ | refine blk_drew ?_ | refine blk_alloc ?_ _)); exact BK186.out) hb); have n2_ := Aside0.mk (below_step (by repeat (first | (with_reducible first | exact HB.out | apply below_alloc | apply pw_below_drewN | apply below_drew1 | refine below_set ?_ GE185.out | refine below_set ?_ GE186.out) | exact HB.out)) hb); have n3_ := Aside0.mk (hbox); have n4_ := Aside0.mk ((by rw [hg]; exact (below_size (by repeat (first | (with_reducible first | exact HB.out | apply below_alloc | apply pw_below_drewN | apply below_drew1 | refine below_set ?_ GE185.out | refine below_set ?_ GE186.out) | exact HB.out))) : w.heap.size ≤ gb187)); have n5_ := Aside0.mk ((by rw [hg]; exact (below_size (by repeat (first | (with_reducible first | exact HB.out | apply below_alloc | apply pw_below_drewN | apply below_drew1 | refine below_set ?_ GE185.out | refine below_set ?_ GE186.out) | exact HB.out))) : w.heap.size ≤ gb187)); have n6_ := Aside0.mk ((by rw [hg]; exact Nat.ne_of_lt (blk_lt (g := gb185) (o := .cells #[.int .i64 a0_0, .int .i64 a0_1] 28 (0, 0)) (by (with_reducible repeat (first | refine blk_drewN ?_ _ | refine blk_drew ?_ | refine blk_alloc ?_ _)); exact BK185.out)) : gb185 ≠ gb187)); have n7_ := Aside0.mk ((by rw [hg]; exact Nat.ne_of_gt (blk_lt (g := gb185) (o := .cells #[.int .i64 a0_0, .int .i64 a0_1] 28 (0, 0)) (by (with_reducible repeat (first | refine blk_drewN ?_ _ | refine blk_drew ?_ | refine blk_alloc ?_ _)); exact BK185.out)) : gb187 ≠ gb185)); have n8_ := Aside0.mk ((by rw [hg]; exact Nat.ne_of_lt (blk_lt (g := gb186) (o := .cells #[.int .i64 a1_0, .int .i64 a1_1] 28 (0, 0)) (by (with_reducible repeat (first | refine blk_drewN ?_ _ | refine blk_drew ?_ | refine blk_alloc ?_ _)); exact BK186.out)) : gb186 ≠ gb187)); have n9_ := Aside0.mk ((by rw [hg]; exact Nat.ne_of_gt (blk_lt (g := gb186) (o := .cells #[.int .i64 a1_0, .int .i64 a1_1] 28 (0, 0)) (by (with_reducible repeat (first | refine blk_drewN ?_ _ | refine blk_drew ?_ | refine blk_alloc ?_ _)); exact BK186.out)) : gb187 ≠ gb186)); clear BK185; clear BK186; clear HB; have BK185 := n0_; have BK186 := n1_; have HB := n2_; have BK187 := n3_; have GW187 := n4_; have GE187 := n5_; have NB185_187 := n6_; have NB187_185 := n7_; have NB186_187 := n8_; have NB187_186 := n9_; clear n0_ n1_ n2_ n3_ n4_ n5_ n6_ n7_ n8_ n9_; clear hb hbox hg; have hnb26 := NB186_185.out; have hnc26 := NB185_186.out; have hnb27 := NB186_187.out; have hnc27 := NB187_186.out; have hcz28_0 : w25.cell? ⟨gb186, 0, none⟩ = some (.int .i64 a1_0) := (blk_cell BK186.out 0).trans rfl; have hcz28_1 : w25.cell? ⟨gb186, 1, none⟩ = some (.int .i64 a1_1) := (blk_cell BK186.out 1).trans rfl; have hfz28_0 := blk_frozen BK186.out 0; have hfz28_1 := blk_frozen BK186.out 1; have hnb29 := NB185_187.out; have hnc29 := NB187_185.out; have hcz30_0 : w25.cell? ⟨gb185, 0, none⟩ = some (.int .i64 a0_0) := (blk_cell BK185.out 0).trans rfl; have hcz30_1 : w25.cell? ⟨gb185, 1, none⟩ = some (.int .i64 a0_1) := (blk_cell BK185.out 1).trans rfl; have hfz30_0 := blk_frozen BK185.out 0; have hfz30_1 := blk_frozen BK185.out 1; have hcz31_0 : w25.cell? ⟨gb187, 0, none⟩ = some (.int .i64 a2_0) := (blk_cell BK187.out 0).trans rfl; have hcz31_1 : w25.cell? ⟨gb187, 1, none⟩ = some (.int .i64 a2_1) := (blk_cell BK187.out 1).trans rfl; have hfz31_0 := blk_frozen BK187.out 0; have hfz31_1 := blk_frozen BK187.out 1) | ((with_reducible refine gate_callee (f := 31) rfl ?_); refine goesL_ (some 24) rfl rfl Try.func31 (by kernel_rfl) rfl #[.int .i64 (wrap64 (a1_0 - a0_0)), .int .i64 (wrap64 (a2_1 - a0_1))] rfl (by (try simp only [List.map_toArray, List.map_cons, List.map_nil]); first | done | rfl | (simp only [List.length_drop, List.length_take]; rfl)) ?_; (with_reducible refine (limnerref03_product.calls k (wrap64 (a1_0 - a0_0)) (wrap64 (a2_1 - a0_1)) t188 t189 t190 _ A4.out).mono ?_); rintro e w' ⟨rfl, ⟨nd, rfl⟩⟩; refine ⟨_, rfl, ?_⟩) | ((with_reducible refine gate_callee (f := 31) rfl ?_); refine goesL_ (some 39) rfl rfl Try.func31 (by kernel_rfl) rfl #[.int .i64 (wrap64 (a1_1 - a0_1)), .int .i64 (wrap64 (a2_0 - a0_0))] rfl (by (try simp only [List.map_toArray, List.map_cons, List.map_nil]); first | done | rfl | (simp only [List.length_drop, List.length_take]; rfl)) ?_; (with_reducible refine (limnerref03_product.calls k (wrap64 (a1_1 - a0_1)) (wrap64 (a2_0 - a0_0)) t191 t192 t193 _ A5.out).mono ?_); rintro e w' ⟨rfl, ⟨nd, rfl⟩⟩; refine ⟨_, rfl, ?_⟩))
      go_ret
      exact ⟨by first | rfl | (simp [errW_none, errW_some] <;> rfl) | (simp [*, errW_none, errW_some] <;> rfl), by repeat (first | (with_reducible first | exact HB.out | apply below_alloc | apply pw_below_drewN | apply below_drew1 | refine below_set ?_ GE185.out | refine below_set ?_ GE186.out | refine below_set ?_ GE187.out) | exact HB.out)⟩
    · rw [if_neg c22] at H
      have c22b0 : decide (t191 < t188) = false := decide_eq_false c22
      clear c22
      obtain rfl := Option.some.inj H
      go_enter Try.func18, Try.ntmps18
      go_wp2_with (first | ((with_reducible refine gate_dst (N := 3) rfl ?_); refine box_event ?hg (N := 3) ?hd (cs := #[.int .i64 a0_0, .int .i64 a0_1]) (t := 28) ?hr ?_; (case hd => rfl); (case hg => rfl); (case hr => first | (go_simp; done) | (go_simp; rfl)); intro gb185 hg w32 hbox hb; have n0_ := Aside0.mk (below_step (by repeat (first | (with_reducible first | exact HB.out | apply below_alloc | apply pw_below_drewN | apply below_drew1) | exact HB.out)) hb); have n1_ := Aside0.mk (hbox); have n2_ := Aside0.mk ((by rw [hg]; exact (below_size (by repeat (first | (with_reducible first | exact HB.out | apply below_alloc | apply pw_below_drewN | apply below_drew1) | exact HB.out))) : w.heap.size ≤ gb185)); have n3_ := Aside0.mk ((by rw [hg]; exact (below_size (by repeat (first | (with_reducible first | exact HB.out | apply below_alloc | apply pw_below_drewN | apply below_drew1) | exact HB.out))) : w.heap.size ≤ gb185)); clear HB; have HB := n0_; have BK185 := n1_; have GW185 := n2_; have GE185 := n3_; clear n0_ n1_ n2_ n3_; clear hb hbox hg) | ((with_reducible refine gate_dst (N := 4) rfl ?_); refine box_event ?hg (N := 4) ?hd (cs := #[.int .i64 a1_0, .int .i64 a1_1]) (t := 28) ?hr ?_; (case hd => rfl); (case hg => rfl); (case hr => first | (go_simp; done) | (go_simp; rfl)); intro gb186 hg w33 hbox hb; have n0_ := Aside0.mk (blk_below (g := gb185) (o := .cells #[.int .i64 a0_0, .int .i64 a0_1] 28 (0, 0)) (by (with_reducible repeat (first | refine blk_drewN ?_ _ | refine blk_drew ?_ | refine blk_alloc ?_ _)); exact BK185.out) hb); have n1_ := Aside0.mk (below_step (by repeat (first | (with_reducible first | exact HB.out | apply below_alloc | apply pw_below_drewN | apply below_drew1 | refine below_set ?_ GE185.out) | exact HB.out)) hb); have n2_ := Aside0.mk (hbox); have n3_ := Aside0.mk ((by rw [hg]; exact (below_size (by repeat (first | (with_reducible first | exact HB.out | apply below_alloc | apply pw_below_drewN | apply below_drew1 | refine below_set ?_ GE185.out) | exact HB.out))) : w.heap.size ≤ gb186)); have n4_ := Aside0.mk ((by rw [hg]; exact (below_size (by repeat (first | (with_reducible first | exact HB.out | apply below_alloc | apply pw_below_drewN | apply below_drew1 | refine below_set ?_ GE185.out) | exact HB.out))) : w.heap.size ≤ gb186)); have n5_ := Aside0.mk ((by rw [hg]; exact Nat.ne_of_lt (blk_lt (g := gb185) (o := .cells #[.int .i64 a0_0, .int .i64 a0_1] 28 (0, 0)) (by (with_reducible repeat (first | refine blk_drewN ?_ _ | refine blk_drew ?_ | refine blk_alloc ?_ _)); exact BK185.out)) : gb185 ≠ gb186)); have n6_ := Aside0.mk ((by rw [hg]; exact Nat.ne_of_gt (blk_lt (g := gb185) (o := .cells #[.int .i64 a0_0, .int .i64 a0_1] 28 (0, 0)) (by (with_reducible repeat (first | refine blk_drewN ?_ _ | refine blk_drew ?_ | refine blk_alloc ?_ _)); exact BK185.out)) : gb186 ≠ gb185)); clear BK185; clear HB; have BK185 := n0_; have HB := n1_; have BK186 := n2_; have GW186 := n3_; have GE186 := n4_; have NB185_186 := n5_; have NB186_185 := n6_; clear n0_ n1_ n2_ n3_ n4_ n5_ n6_; clear hb hbox hg) | ((with_reducible refine gate_dst (N := 5) rfl ?_); refine box_event ?hg (N := 5) ?hd (cs := #[.int .i64 a2_0, .int .i64 a2_1]) (t := 28) ?hr ?_; (case hd => rfl); (case hg => rfl); (case hr => first | (go_simp; done) | (go_simp; rfl)); intro gb187 hg w34 hbox hb; have n0_ := Aside0.mk (blk_below (g := gb185) (o := .cells #[.int .i64 a0_0, .int .i64 a0_1] 28 (0, 0)) (by (with_reducible repeat (first | refine blk_drewN ?_ _ | refine blk_drew ?_ | refine blk_alloc ?_ _)); exact BK185.out) hb); have n1_ := Aside0.mk (blk_below (g := gb186) (o := .cells #[.int .i64 a1_0, .int .i64 a1_1] 28 (0, 0)) (by (with_reducible repeat (first | refine blk_drewN ?_ _ | refine blk_drew ?_ | refine blk_alloc ?_ _)); exact BK186.out) hb); have n2_ := Aside0.mk (below_step (by repeat (first | (with_reducible first | exact HB.out | apply below_alloc | apply pw_below_drewN | apply below_drew1 | refine below_set ?_ GE185.out | refine below_set ?_ GE186.out) | exact HB.out)) hb); have n3_ := Aside0.mk (hbox); have n4_ := Aside0.mk ((by rw [hg]; exact (below_size (by repeat (first | (with_reducible first | exact HB.out | apply below_alloc | apply pw_below_drewN | apply below_drew1 | refine below_set ?_ GE185.out | refine below_set ?_ GE186.out) | exact HB.out))) : w.heap.size ≤ gb187)); have n5_ := Aside0.mk ((by rw [hg]; exact (below_size (by repeat (first | (with_reducible first | exact HB.out | apply below_alloc | apply pw_below_drewN | apply below_drew1 | refine below_set ?_ GE185.out | refine below_set ?_ GE186.out) | exact HB.out))) : w.heap.size ≤ gb187)); have n6_ := Aside0.mk ((by rw [hg]; exact Nat.ne_of_lt (blk_lt (g := gb185) (o := .cells #[.int .i64 a0_0, .int .i64 a0_1] 28 (0, 0)) (by (with_reducible repeat (first | refine blk_drewN ?_ _ | refine blk_drew ?_ | refine blk_alloc ?_ _)); exact BK185.out)) : gb185 ≠ gb187)); have n7_ := Aside0.mk ((by rw [hg]; exact Nat.ne_of_gt (blk_lt (g := gb185) (o := .cells #[.int .i64 a0_0, .int .i64 a0_1] 28 (0, 0)) (by (with_reducible repeat (first | refine blk_drewN ?_ _ | refine blk_drew ?_ | refine blk_alloc ?_ _)); exact BK185.out)) : gb187 ≠ gb185)); have n8_ := Aside0.mk ((by rw [hg]; exact Nat.ne_of_lt (blk_lt (g := gb186) (o := .cells #[.int .i64 a1_0, .int .i64 a1_1] 28 (0, 0)) (by (with_reducible repeat (first | refine blk_drewN ?_ _ | refine blk_drew ?_ | refine blk_alloc ?_ _)); exact BK186.out)) : gb186 ≠ gb187)); have n9_ := Aside0.mk ((by rw [hg]; exact Nat.ne_of_gt (blk_lt (g := gb186) (o := .cells #[.int .i64 a1_0, .int .i64 a1_1] 28 (0, 0)) (by (with_reducible repeat (first | refine blk_drewN ?_ _ | refine blk_drew ?_ | refine blk_alloc ?_ _)); exact BK186.out)) : gb187 ≠ gb186)); clear BK185; clear BK186; clear HB; have BK185 := n0_; have BK186 := n1_; have HB := n2_; have BK187 := n3_; have GW187 := n4_; have GE187 := n5_; have NB185_187 := n6_; have NB187_185 := n7_; have NB186_187 := n8_; have NB187_186 := n9_; clear n0_ n1_ n2_ n3_ n4_ n5_ n6_ n7_ n8_ n9_; clear hb hbox hg; have hnb35 := NB186_185.out; have hnc35 := NB185_186.out; have hnb36 := NB186_187.out; have hnc36 := NB187_186.out; have hcz37_0 : w34.cell? ⟨gb186, 0, none⟩ = some (.int .i64 a1_0) := (blk_cell BK186.out 0).trans rfl; have hcz37_1 : w34.cell? ⟨gb186, 1, none⟩ = some (.int .i64 a1_1) := (blk_cell BK186.out 1).trans rfl; have hfz37_0 := blk_frozen BK186.out 0; have hfz37_1 := blk_frozen BK186.out 1; have hnb38 := NB185_187.out; have hnc38 := NB187_185.out; have hcz39_0 : w34.cell? ⟨gb185, 0, none⟩ = some (.int .i64 a0_0) := (blk_cell BK185.out 0).trans rfl; have hcz39_1 : w34.cell? ⟨gb185, 1, none⟩ = some (.int .i64 a0_1) := (blk_cell BK185.out 1).trans rfl; have hfz39_0 := blk_frozen BK185.out 0; have hfz39_1 := blk_frozen BK185.out 1; have hcz40_0 : w34.cell? ⟨gb187, 0, none⟩ = some (.int .i64 a2_0) := (blk_cell BK187.out 0).trans rfl; have hcz40_1 : w34.cell? ⟨gb187, 1, none⟩ = some (.int .i64 a2_1) := (blk_cell BK187.out 1).trans rfl; have hfz40_0 := blk_frozen BK187.out 0; have hfz40_1 := blk_frozen BK187.out 1) | ((with_reducible refine gate_callee (f := 31) rfl ?_); refine goesL_ (some 24) rfl rfl Try.func31 (by kernel_rfl) rfl #[.int .i64 (wrap64 (a1_0 - a0_0)), .int .i64 (wrap64 (a2_1 - a0_1))] rfl (by (try simp only [List.map_toArray, List.map_cons, List.map_nil]); first | done | rfl | (simp only [List.length_drop, List.length_take]; rfl)) ?_; (with_reducible refine (limnerref03_product.calls k (wrap64 (a1_0 - a0_0)) (wrap64 (a2_1 - a0_1)) t188 t189 t190 _ A4.out).mono ?_); rintro e w' ⟨rfl, ⟨nd, rfl⟩⟩; refine ⟨_, rfl, ?_⟩) | ((with_reducible refine gate_callee (f := 31) rfl ?_); refine goesL_ (some 39) rfl rfl Try.func31 (by kernel_rfl) rfl #[.int .i64 (wrap64 (a1_1 - a0_1)), .int .i64 (wrap64 (a2_0 - a0_0))] rfl (by (try simp only [List.map_toArray, List.map_cons, List.map_nil]); first | done | rfl | (simp only [List.length_drop, List.length_take]; rfl)) ?_; (with_reducible refine (limnerref03_product.calls k (wrap64 (a1_1 - a0_1)) (wrap64 (a2_0 - a0_0)) t191 t192 t193 _ A5.out).mono ?_); rintro e w' ⟨rfl, ⟨nd, rfl⟩⟩; refine ⟨_, rfl, ?_⟩))
      go_ret
      exact ⟨by first | rfl | (simp [errW_none, errW_some] <;> rfl) | (simp [*, errW_none, errW_some] <;> rfl), by repeat (first | (with_reducible first | exact HB.out | apply below_alloc | apply pw_below_drewN | apply below_drew1 | refine below_set ?_ GE185.out | refine below_set ?_ GE186.out | refine below_set ?_ GE187.out) | exact HB.out)⟩

end Go.Proofs.Ytfhjndnempmcaaa.X
